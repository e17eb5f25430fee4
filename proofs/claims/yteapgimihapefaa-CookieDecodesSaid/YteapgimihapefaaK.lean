/- Layer 9's functions, walked. It bears no condition. -/
import Derived.Test.YteapgimihapefaaB
import Derived.Test.YteapgimihapefaaO
namespace Go.Proofs.Yteapgimihapefaa.E
set_option linter.unusedVariables false
set_option linter.unusedSimpArgs false
theorem O_callv {tab : Nat → Option XFun} {sp : Nat → List AV → AH → Option (AV × AH)} {T : Tm} {H : AH} {R : Tm → AH → Prop} {d : Nat} {f : XO} {args : List XO} {ix : Nat} {bef : List Nat} {l : List XOper} {F : AV} {as' : List AV} (hf : f.ev T = F) (ha : args.map (·.ev T) = as') (h : Ev tab sp F as' H (fun v H' => O tab sp l ((d, v) :: T) H' R)) : O tab sp (⟨some d, .call f args, none, ix, bef⟩ :: l) T H R := O_call (by rw [hf, ha]; exact h)
def w32 (n : Int) : Int := IntKind.u32.wrap n
/-- A state's numbers of 32 bits. -/
def wordsL (made life tag peer first pf room out inn tie0 tie1 : Int) : List Int :=
  [w32 (Int.fdiv made (2 ^ 32)), w32 made, w32 (Int.fdiv life (2 ^ 32)), w32 life, tag, peer, first, pf, room, tie0, tie1, w32 ((BitVec.ofInt 32 (w32 (w32 out * 2 ^ 16)) ||| BitVec.ofInt 32 (w32 inn)).toNat : Int)]
def u32cells (l : List Int) : List AV := l.map (AV.i .u32)
theorem u32_get {l : List Int} {i : Nat} (h : i < l.length) : (u32cells l)[i]? = some (.i .u32 (l.getD i 0)) := by
  unfold u32cells; rw [List.getElem?_map, List.getElem?_eq_getElem h, List.getD_eq_getElem?_getD, List.getElem?_eq_getElem h]; rfl
/-- Numbers of 32 bits as octets. -/
def b32 (l : List Int) : List UInt8 := l.flatMap fun w => beN w 4
theorem b32_nil : b32 [] = [] := rfl
theorem b32_succ {l : List Int} {i : Nat} (h : i < l.length) : b32 (l.take (i + 1)) = b32 (l.take i) ++ beN (l.getD i 0) 4 := by
  unfold b32
  rw [List.take_succ_eq_append_getElem h, List.flatMap_append, List.flatMap_singleton, List.getD_eq_getElem?_getD, List.getElem?_eq_getElem h]; rfl
theorem b32_len (l : List Int) : (b32 l).length = 4 * l.length := by
  induction l with
  | nil => rfl
  | cons w l ih => simp only [b32, List.flatMap_cons, List.length_append, beN_len, List.length_cons] at ih ⊢; omega
def okS (made life : Int) : Bool := (((decide (0 ≤ made) && decide (made ≤ 281474976710656)) && decide (0 ≤ life)) && decide (life ≤ 281474976710656))
/-- 48 octets, their code, and the sign. -/
def sealed (key b : List UInt8) : List UInt8 := b ++ beN (w32 (Int.fdiv (code key b) (2 ^ 32))) 4 ++ beN (w32 (code key b)) 4 ++ [66, 79, 76, 49]
theorem w32_hi (c : Int) : w32 (Int.fdiv (IntKind.i64.wrap c) (2 ^ 32)) = w32 (Int.fdiv c (2 ^ 32)) := by
  unfold w32; rw [wrap_u32, wrap_u32, Int.fdiv_eq_ediv_of_nonneg _ (by decide), Int.fdiv_eq_ediv_of_nonneg _ (by decide)]
  simp only [IntKind.wrap, IntKind.signed, IntKind.bits]
  simp only [Int.reducePow, if_true, Int.bmod]
  omega
theorem w32_lo (c : Int) : w32 (IntKind.i64.wrap c) = w32 c := by
  unfold w32; rw [wrap_u32, wrap_u32]
  simp only [IntKind.wrap, IntKind.signed, IntKind.bits]
  simp only [Int.reducePow, if_true, Int.bmod]
  omega
theorem w32_of {n : Int} (h : 0 ≤ n ∧ n < 4294967296) : w32 n = n := by unfold w32; rw [wrap_u32]; omega
theorem be22 {o i : Int} (ho : 0 ≤ o ∧ o < 65536) (hi : 0 ≤ i ∧ i < 65536) : beN (w32 ((BitVec.ofInt 32 (w32 (w32 o * 2 ^ 16)) ||| BitVec.ofInt 32 (w32 i)).toNat : Int)) 4 = beN o 2 ++ beN i 2 := by
  rw [w32_of (n := o) (by omega), w32_of (n := i) (by omega), w32_of (n := o * 2 ^ 16) (by omega)]
  obtain ⟨a, rfl⟩ := Int.eq_ofNat_of_zero_le ho.1
  obtain ⟨b, rfl⟩ := Int.eq_ofNat_of_zero_le hi.1
  rw [show ((a : Int) * 2 ^ 16) = ((a * 2 ^ 16 : Nat) : Int) by omega, or_of (by omega) (by omega), w32_of (by omega)]
  simp only [beN, List.cons_append, List.nil_append]
  rw [Int.fdiv_eq_ediv_of_nonneg _ (by decide), Int.fdiv_eq_ediv_of_nonneg _ (by decide), Int.fdiv_eq_ediv_of_nonneg _ (by decide), Int.fdiv_eq_ediv_of_nonneg _ (by decide), Int.fdiv_eq_ediv_of_nonneg _ (by decide), Int.fdiv_eq_ediv_of_nonneg _ (by decide), Int.fdiv_eq_ediv_of_nonneg _ (by decide), Int.fdiv_eq_ediv_of_nonneg _ (by decide)]
  have e : ∀ p q : Int, p % 256 = q % 256 → u8 p = u8 q := fun p q h => by unfold u8; rw [h]
  refine List.cons_eq_cons.2 ⟨e _ _ (by omega), List.cons_eq_cons.2 ⟨e _ _ (by omega), List.cons_eq_cons.2 ⟨e _ _ (by omega), List.cons_eq_cons.2 ⟨e _ _ (by omega), rfl⟩⟩⟩⟩
theorem Old.drp {N n : Nat} {H0 H H' : AH} (h : Old N H0 H) (k : Drp H n H') (hn : N ≤ n) : Old N H0 H' := by
  obtain ⟨k1, k2, k3⟩ := k
  refine ⟨by rw [k1]; exact h.next, fun m hm => by rw [k3 m (by omega), h.keep m hm], fun q b hq => ?_⟩
  by_cases e : q = n
  · subst e; rw [k2] at hq; cases hq
  · rw [k3 q e] at hq; rw [k1]; exact h.ok q b hq
theorem Mine.drp {N sz n : Nat} {H H' : AH} {v : AV} {l : List AV} (h : Mine N sz H v l) (k : Drp H n H') (hn : ¬ v.nameOf n) : Mine N sz H' v l :=
  ⟨h.own.frame (by rw [k.1]; exact Nat.le_refl _) (fun q _ hv => k.2.2 q (by rintro rfl; exact hn hv)), h.new⟩
theorem ref_bytes (made life tag peer first pf room out inn tie0 tie1 : Int) (ht : 0 ≤ tag ∧ tag < 4294967296) (hp : 0 ≤ peer ∧ peer < 4294967296) (hf : 0 ≤ first ∧ first < 4294967296) (hpf : 0 ≤ pf ∧ pf < 4294967296) (hr : 0 ≤ room ∧ room < 4294967296) (ho : 0 ≤ out ∧ out < 65536) (hi : 0 ≤ inn ∧ inn < 65536) (h0 : 0 ≤ tie0 ∧ tie0 < 4294967296) (h1 : 0 ≤ tie1 ∧ tie1 < 4294967296) {key : List UInt8} : sealed key ((((((((((((([] ++ beN (w32 (Int.fdiv made (2 ^ 32))) 4) ++ beN (w32 made) 4) ++ beN (w32 (Int.fdiv life (2 ^ 32))) 4) ++ beN (w32 life) 4) ++ beN (w32 tag) 4) ++ beN (w32 peer) 4) ++ beN (w32 first) 4) ++ beN (w32 pf) 4) ++ beN (w32 room) 4) ++ beN (w32 tie0) 4) ++ beN (w32 tie1) 4) ++ beN (w32 out) 2) ++ beN (w32 inn) 2) = sealed key (b32 (wordsL made life tag peer first pf room out inn tie0 tie1)) := by
  congr 1
  simp only [wordsL, b32, List.flatMap_cons, List.flatMap_nil, be22 ho hi]
  rw [w32_of ht, w32_of hp, w32_of hf, w32_of hpf, w32_of hr, w32_of h0, w32_of h1, w32_of (n := out) (by omega), w32_of (n := inn) (by omega)]
  simp only [List.append_assoc, List.nil_append, List.append_nil]
theorem words1_ev {tab : Nat → Option XFun} {sp : Nat → List AV → AH → Option (AV × AH)} (h32 : tab 32 = some x32) {H : AH} (hok : H.Ok) {L p1 ns : Nat} (made life tag peer first pf room out inn tie0 tie1 : Int) (hp1 : H.get p1 = some (.cells [.p (some (ns, 0))] true)) (hns : H.get ns = some (.cells [(.i .i64 made), (.i .i64 life), (.i .u32 tag), (.i .u32 peer), (.i .u32 first), (.i .u32 pf), (.i .u32 room), (.i .u16 out), (.i .u16 inn), (.i .u32 tie0), (.i .u32 tie1)] true)) (I : Nat → AH → Prop) (hstart : ∀ H1, Kp H H1 → I 0 H1)
    (hy : ∀ i H1, i < 12 → I i H1 → H1.Ok → H.next ≤ H1.next → Ev tab sp (.fn (.yield L) [] []) [.i .u32 ((wordsL made life tag peer first pf room out inn tie0 tie1).getD i 0)] H1 (fun v H2 => v = .b true ∧ I (i + 1) H2 ∧ H2.Ok ∧ H1.next ≤ H2.next ∧ ∀ m, m < H1.next → H.next ≤ m → H2.get m = H1.get m)) :
    Ev tab sp (.fn (.func 32) [] [.p (some (p1, 0))]) [.fn (.yield L) [] []] H (fun _ H' => I 12 H' ∧ H'.Ok ∧ H.next ≤ H'.next) := by
  refine Ev_C (F := x32) h32 ?_
  have hO0 := Old.refl hok
  have hlt_p1 : p1 < H.next := hok _ _ hp1
  have hlt_ns : ns < H.next := hok _ _ hns
  have hpn : p1 ≠ ns := by rintro rfl; rw [hp1] at hns; cases hns
  refine C_seq ?_
  refine C_draw fun b1 H2 hbase3 hA4 => ?_
  have hnx5 : H2.next = H.next + 24 := hA4.1
  have hb6 := (hA4.2 _).trans hp1
  have hb7 := (hA4.2 _).trans hns
  have hF8 := hA4.fr (fun _ => False)
  have hO9 := hO0.aside hA4
  have hx_hO9 := hO9.next
  have hlt_p1 : p1 < H2.next := by omega
  have hlt_ns : ns < H2.next := by omega
  refine D_r (v := (.p (some (ns, 0)))) rfl rfl rfl (r_ld rfl hb6 rfl) ?_
  refine D_l (v := (.p (some (ns, 0)))) rfl rfl rfl (r_nilc rfl) ?_
  refine D_l (v := (.p (some (ns, 0)))) rfl rfl rfl (r_fadd' rfl rfl) ?_
  refine D_r (v := (.i .i64 made)) rfl rfl rfl (r_ld rfl hb7 rfl) ?_
  refine D_l (v := (.i .i64 (Int.fdiv made (2 ^ 32)))) rfl rfl rfl (r_bin rfl rfl rfl) ?_
  refine D_l (v := (.i .u32 (IntKind.u32.wrap (Int.fdiv made (2 ^ 32))))) rfl rfl rfl (r_cint rfl) ?_
  refine D_r (v := (.p (some (ns, 0)))) rfl rfl rfl (r_ld rfl hb6 rfl) ?_
  refine D_l (v := (.p (some (ns, 0)))) rfl rfl rfl (r_nilc rfl) ?_
  refine D_l (v := (.p (some (ns, 0)))) rfl rfl rfl (r_fadd' rfl rfl) ?_
  refine D_r (v := (.i .i64 made)) rfl rfl rfl (r_ld rfl hb7 rfl) ?_
  refine D_l (v := (.i .u32 (IntKind.u32.wrap made))) rfl rfl rfl (r_cint rfl) ?_
  refine D_r (v := (.p (some (ns, 0)))) rfl rfl rfl (r_ld rfl hb6 rfl) ?_
  refine D_l (v := (.p (some (ns, 0)))) rfl rfl rfl (r_nilc rfl) ?_
  refine D_l (v := (.p (some (ns, 1)))) rfl rfl rfl (r_fadd' rfl rfl) ?_
  refine D_r (v := (.i .i64 life)) rfl rfl rfl (r_ld rfl hb7 rfl) ?_
  refine D_l (v := (.i .i64 (Int.fdiv life (2 ^ 32)))) rfl rfl rfl (r_bin rfl rfl rfl) ?_
  refine D_l (v := (.i .u32 (IntKind.u32.wrap (Int.fdiv life (2 ^ 32))))) rfl rfl rfl (r_cint rfl) ?_
  refine D_r (v := (.p (some (ns, 0)))) rfl rfl rfl (r_ld rfl hb6 rfl) ?_
  refine D_l (v := (.p (some (ns, 0)))) rfl rfl rfl (r_nilc rfl) ?_
  refine D_l (v := (.p (some (ns, 1)))) rfl rfl rfl (r_fadd' rfl rfl) ?_
  refine D_r (v := (.i .i64 life)) rfl rfl rfl (r_ld rfl hb7 rfl) ?_
  refine D_l (v := (.i .u32 (IntKind.u32.wrap life))) rfl rfl rfl (r_cint rfl) ?_
  refine D_m (f := fun n => ((.sl (some (n, 0)) 4 4 0), .cells [(.i .u32 (IntKind.u32.wrap (Int.fdiv made (2 ^ 32)))), (.i .u32 (IntKind.u32.wrap made)), (.i .u32 (IntKind.u32.wrap (Int.fdiv life (2 ^ 32)))), (.i .u32 (IntKind.u32.wrap life))] true)) rfl rfl fun H11 hW12 => ?_
  generalize hn13 : b1 + 22 = n10 at hW12 ⊢
  have hb14 := (hW12.2.2 _ (by omega)).trans hb6
  have hb15 := (hW12.2.2 _ (by omega)).trans hb7
  have hO16 := hO9.wr hW12 (by omega) (by omega)
  have hx_hO16 := hO16.next
  have hnx_H11 : H11.next = H2.next := hW12.1
  have hlt_p1 : p1 < H11.next := by omega
  have hlt_ns : ns < H11.next := by omega
  have hlt_n10 : n10 < H11.next := by omega
  refine And.intro (And.intro (Or.inl rfl) (And.intro (Or.inl rfl) (And.intro (Or.inl rfl) (And.intro (Or.inl rfl) (And.intro (Or.inl rfl) (And.intro (Or.inl rfl) (And.intro (Or.inl rfl) (And.intro (Or.inl rfl) True.intro)))))))) ?_
  refine D_l (v := (.sl (some (n10, 0)) 4 4 0)) rfl rfl rfl (r_mv rfl) ?_
  refine D_nil ?_
  refine C_seq ?_
  refine C_draw fun b17 H18 hbase19 hA20 => ?_
  have hnx21 : H18.next = H11.next + 47 := hA20.1
  have hb22 := (hA20.2 _).trans hb14
  have hb23 := (hA20.2 _).trans hb15
  have hb24 := (hA20.2 _).trans hW12.2.1
  have hF25 := hA20.fr (fun _ => False)
  have hO26 := hO16.aside hA20
  have hx_hO26 := hO26.next
  have hlt_p1 : p1 < H18.next := by omega
  have hlt_ns : ns < H18.next := by omega
  have hlt_n10 : n10 < H18.next := by omega
  refine D_l (v := (.sl (some (n10, 0)) 4 4 0)) rfl rfl rfl (r_mv rfl) ?_
  refine D_l (v := (.i .i64 0)) rfl rfl rfl (r_mv rfl) ?_
  refine D_r (v := (.p (some (ns, 0)))) rfl rfl rfl (r_ld rfl hb22 rfl) ?_
  refine D_l (v := (.p (some (ns, 0)))) rfl rfl rfl (r_nilc rfl) ?_
  refine D_l (v := (.p (some (ns, 2)))) rfl rfl rfl (r_fadd' rfl rfl) ?_
  refine D_r (v := (.i .u32 tag)) rfl rfl rfl (r_ld rfl hb23 rfl) ?_
  refine D_r (v := (.p (some (ns, 0)))) rfl rfl rfl (r_ld rfl hb22 rfl) ?_
  refine D_l (v := (.p (some (ns, 0)))) rfl rfl rfl (r_nilc rfl) ?_
  refine D_l (v := (.p (some (ns, 3)))) rfl rfl rfl (r_fadd' rfl rfl) ?_
  refine D_r (v := (.i .u32 peer)) rfl rfl rfl (r_ld rfl hb23 rfl) ?_
  refine D_r (v := (.p (some (ns, 0)))) rfl rfl rfl (r_ld rfl hb22 rfl) ?_
  refine D_l (v := (.p (some (ns, 0)))) rfl rfl rfl (r_nilc rfl) ?_
  refine D_l (v := (.p (some (ns, 4)))) rfl rfl rfl (r_fadd' rfl rfl) ?_
  refine D_r (v := (.i .u32 first)) rfl rfl rfl (r_ld rfl hb23 rfl) ?_
  refine D_r (v := (.p (some (ns, 0)))) rfl rfl rfl (r_ld rfl hb22 rfl) ?_
  refine D_l (v := (.p (some (ns, 0)))) rfl rfl rfl (r_nilc rfl) ?_
  refine D_l (v := (.p (some (ns, 5)))) rfl rfl rfl (r_fadd' rfl rfl) ?_
  refine D_r (v := (.i .u32 pf)) rfl rfl rfl (r_ld rfl hb23 rfl) ?_
  refine D_r (v := (.p (some (ns, 0)))) rfl rfl rfl (r_ld rfl hb22 rfl) ?_
  refine D_l (v := (.p (some (ns, 0)))) rfl rfl rfl (r_nilc rfl) ?_
  refine D_l (v := (.p (some (ns, 6)))) rfl rfl rfl (r_fadd' rfl rfl) ?_
  refine D_r (v := (.i .u32 room)) rfl rfl rfl (r_ld rfl hb23 rfl) ?_
  refine D_r (v := (.p (some (ns, 0)))) rfl rfl rfl (r_ld rfl hb22 rfl) ?_
  refine D_l (v := (.p (some (ns, 0)))) rfl rfl rfl (r_nilc rfl) ?_
  refine D_l (v := (.p (some (ns, 9)))) rfl rfl rfl (r_fadd' rfl rfl) ?_
  refine D_l (v := (.p (some (ns, 9)))) rfl rfl rfl (r_iarr' rfl rfl rfl rfl) ?_
  refine D_r (v := (.i .u32 tie0)) rfl rfl rfl (r_ld rfl hb23 rfl) ?_
  refine D_r (v := (.p (some (ns, 0)))) rfl rfl rfl (r_ld rfl hb22 rfl) ?_
  refine D_l (v := (.p (some (ns, 0)))) rfl rfl rfl (r_nilc rfl) ?_
  refine D_l (v := (.p (some (ns, 9)))) rfl rfl rfl (r_fadd' rfl rfl) ?_
  refine D_l (v := (.p (some (ns, 10)))) rfl rfl rfl (r_iarr' rfl rfl rfl rfl) ?_
  refine D_r (v := (.i .u32 tie1)) rfl rfl rfl (r_ld rfl hb23 rfl) ?_
  refine D_r (v := (.p (some (ns, 0)))) rfl rfl rfl (r_ld rfl hb22 rfl) ?_
  refine D_l (v := (.p (some (ns, 0)))) rfl rfl rfl (r_nilc rfl) ?_
  refine D_l (v := (.p (some (ns, 7)))) rfl rfl rfl (r_fadd' rfl rfl) ?_
  refine D_r (v := (.i .u16 out)) rfl rfl rfl (r_ld rfl hb23 rfl) ?_
  refine D_l (v := (.i .u32 (IntKind.u32.wrap out))) rfl rfl rfl (r_cint rfl) ?_
  refine D_l (v := (.i .u32 (IntKind.u32.wrap ((IntKind.u32.wrap out) * 2 ^ 16)))) rfl rfl rfl (r_bin rfl rfl rfl) ?_
  refine D_r (v := (.p (some (ns, 0)))) rfl rfl rfl (r_ld rfl hb22 rfl) ?_
  refine D_l (v := (.p (some (ns, 0)))) rfl rfl rfl (r_nilc rfl) ?_
  refine D_l (v := (.p (some (ns, 8)))) rfl rfl rfl (r_fadd' rfl rfl) ?_
  refine D_r (v := (.i .u16 inn)) rfl rfl rfl (r_ld rfl hb23 rfl) ?_
  refine D_l (v := (.i .u32 (IntKind.u32.wrap inn))) rfl rfl rfl (r_cint rfl) ?_
  refine D_l (v := (.i .u32 (IntKind.u32.wrap ((BitVec.ofInt 32 (IntKind.u32.wrap ((IntKind.u32.wrap out) * 2 ^ 16)) ||| BitVec.ofInt 32 (IntKind.u32.wrap inn)).toNat : Int)))) rfl rfl rfl (r_bin rfl rfl rfl) ?_
  refine D_m (f := fun n => ((.sl (some (n, 0)) 8 8 0), .cells [(.i .u32 tag), (.i .u32 peer), (.i .u32 first), (.i .u32 pf), (.i .u32 room), (.i .u32 tie0), (.i .u32 tie1), (.i .u32 (IntKind.u32.wrap ((BitVec.ofInt 32 (IntKind.u32.wrap ((IntKind.u32.wrap out) * 2 ^ 16)) ||| BitVec.ofInt 32 (IntKind.u32.wrap inn)).toNat : Int)))] true)) rfl rfl fun H28 hW29 => ?_
  generalize hn30 : b17 + 43 = n27 at hW29 ⊢
  have hb31 := (hW29.2.2 _ (by omega)).trans hb22
  have hb32 := (hW29.2.2 _ (by omega)).trans hb23
  have hb33 := (hW29.2.2 _ (by omega)).trans hb24
  have hO34 := hO26.wr hW29 (by omega) (by omega)
  have hx_hO34 := hO34.next
  have hnx_H28 : H28.next = H18.next := hW29.1
  have hlt_p1 : p1 < H28.next := by omega
  have hlt_ns : ns < H28.next := by omega
  have hlt_n10 : n10 < H28.next := by omega
  have hlt_n27 : n27 < H28.next := by omega
  refine And.intro (And.intro (Or.inl rfl) (And.intro (Or.inl rfl) (And.intro (Or.inl rfl) (And.intro (Or.inl rfl) (And.intro (Or.inl rfl) (And.intro (Or.inl rfl) (And.intro (Or.inl rfl) (And.intro (Or.inl rfl) (And.intro (Or.inl rfl) (And.intro (Or.inl rfl) (And.intro (Or.inl rfl) (And.intro (Or.inl rfl) (And.intro (Or.inl rfl) (And.intro (Or.inl rfl) (And.intro (Or.inl rfl) (And.intro (Or.inl rfl) (And.intro (Or.inl rfl) (And.intro (Or.inl rfl) True.intro)))))))))))))))))) ?_
  have hM35 : Mine H.next 1 H28 (.sl (some (n10, 0)) 4 4 0) [(.i .u32 (IntKind.u32.wrap (Int.fdiv made (2 ^ 32)))), (.i .u32 (IntKind.u32.wrap made)), (.i .u32 (IntKind.u32.wrap (Int.fdiv life (2 ^ 32)))), (.i .u32 (IntKind.u32.wrap life))] := ⟨.mk (n := 4) hb33 (by omega) (.inl rfl) rfl, fun q hq => by rw [nameOf_sl] at hq; omega⟩
  have hd36 : ¬ ((.sl (some (n10, 0)) 4 4 0) : AV).nameOf p1 := fun hq => by rw [nameOf_sl] at hq; omega
  have hd37 : ¬ ((.sl (some (n10, 0)) 4 4 0) : AV).nameOf ns := fun hq => by rw [nameOf_sl] at hq; omega
  have hd38 : ¬ ((.sl (some (n10, 0)) 4 4 0) : AV).nameOf n27 := fun hq => by rw [nameOf_sl] at hq; omega
  refine D_qh rfl rfl (by exact r_app (n := 4) (k := 8) (new := [(.i .u32 tag), (.i .u32 peer), (.i .u32 first), (.i .u32 pf), (.i .u32 room), (.i .u32 tie0), (.i .u32 tie1), (.i .u32 (IntKind.u32.wrap ((BitVec.ofInt 32 (IntKind.u32.wrap ((IntKind.u32.wrap out) * 2 ^ 16)) ||| BitVec.ofInt 32 (IntKind.u32.wrap inn)).toNat : Int)))]) hO34.ok hO34.next hM35 rfl rfl rfl rfl (src_blk hW29.2.1 (by rfl)) rfl (by decide) (by decide) (by first | omega | (simp only [List.length_take, List.length_drop, List.length_append, List.length_cons, List.length_nil, beN_len] <;> omega))) fun o39 H40 hA41 => ?_
  have hx_H40 := hA41.2.1
  have hb42 := (hA41.2.2.1 _ (by omega) hd36).trans hb31
  have hb43 := (hA41.2.2.1 _ (by omega) hd37).trans hb32
  have hlt_p1 : p1 < H40.next := by omega
  have hlt_ns : ns < H40.next := by omega
  have hO44 := hA41.old hM35 hO34
  have hx_hO44 := hO44.next
  have hd45 := hA41.dis (n := p1) (by omega) hd36
  have hd46 := hA41.dis (n := ns) (by omega) hd37
  refine And.intro True.intro ?_
  refine D_l (v := (.i .i64 ((((4 + 8) : Nat)) : Int))) rfl rfl rfl (by exact (r_lenOf rfl (hA41.1.own.lenOf (len_app rfl rfl) (by decide)) hA41.1.own.isSl)) ?_
  refine D_nil ?_
  refine C_block ?_
  have hM47 : Mine H.next 1 H40 o39 (u32cells (wordsL made life tag peer first pf room out inn tie0 tie1)) := hA41.1
  have hI0 : I 0 H40 := hstart _ hO44
  refine C_while (fun m T HH => ∃ i : Nat, m = 12 - i ∧ i ≤ 12 ∧ I i HH ∧ HH.Ok ∧ H.next ≤ HH.next ∧ Mine H.next 1 HH o39 (u32cells (wordsL made life tag peer first pf room out inn tie0 tie1)) ∧ T.get 0 = .fn (.yield L) [] [] ∧ T.get 73 = o39 ∧ T.get 74 = .i .i64 12 ∧ T.get 75 = .i .i64 (i : Nat)) (fun m T HH hI => ?_) 12 _ _ ⟨0, rfl, by omega, hI0, hO44.ok, hO44.next, hM47, rfl, rfl, rfl, rfl⟩
  obtain ⟨i, hm, hi, hIi, hokH, hnH, hMH, hT0, hT73, hT74, hT75⟩ := hI
  refine C_seq ?_
  refine C_region ?_
  refine O_p (.b (decide ((((i : Nat)) : Int) < 12))) (r_lss hT75 hT74) ?_
  refine O_nil ?_
  refine C_seq ?_
  refine C_cond (x := (decide ((((i : Nat)) : Int) < 12))) rfl (fun hc48 => ?_) (fun hc48 => ?_)
  ·
    simp only [decide_eq_true_eq, decide_eq_false_iff_not, Bool.not_eq_true', Bool.not_eq_false', Bool.and_eq_true, Bool.or_eq_true, Bool.or_eq_false_iff, Bool.not_not] at hc48
    refine C_skip ?_
    refine C_seq ?_
    refine C_block ?_
    refine C_seq ?_
    refine C_region ?_
    refine O_q (by exact Own.ix hMH.own (by exact hT73) (i := i) (by exact hT75) (y := (.i .u32 ((wordsL made life tag peer first pf room out inn tie0 tie1).getD i 0))) (u32_get (by show _ < 12; omega))) fun v50 hv49 => ?_
    refine O_p (.i .u32 ((wordsL made life tag peer first pf room out inn tie0 tie1).getD i 0)) (hv49.load rfl) ?_
    refine O_p (.i .u32 ((wordsL made life tag peer first pf room out inn tie0 tie1).getD i 0)) (r_mv rfl) ?_
    refine O_nil ?_
    refine C_seq ?_
    refine C_region ?_
    refine O_p (.fn (.yield L) [] []) (r_mv hT0) ?_
    refine O_p (.i .u32 ((wordsL made life tag peer first pf room out inn tie0 tie1).getD i 0)) (r_mv rfl) ?_
    refine O_callv (F := .fn (.yield L) [] []) (as' := [(.i .u32 ((wordsL made life tag peer first pf room out inn tie0 tie1).getD i 0))]) rfl rfl ?_
    refine Ev.mono (hy i HH (by omega) hIi hokH hnH) fun v2 H2 hq2 => ?_
    obtain ⟨rfl, hI2, hok2, hn2, hk2⟩ := hq2
    have hM2 := Mine.mk (hMH.own.frame hn2 (fun q hq hv => hk2 q hq (hMH.new q hv))) hMH.new
    refine O_p (.b false) (r_un rfl rfl) ?_
    refine O_nil ?_
    refine C_cond (x := false) rfl (fun h => by cases h) (fun _ => ?_)
    refine C_skip ?_
    refine C_region ?_
    refine O_p (.i .i64 ((((i : Nat)) : Int) + 1)) (by exact (r_addi hT75 rfl (wrap_i64 (by omega) (by omega)))) ?_
    refine O_p (.i .i64 ((((i : Nat)) : Int) + 1)) (r_mv rfl) ?_
    refine O_nil ?_
    exact ⟨12 - (i + 1), by omega, i + 1, rfl, by omega, hI2, hok2, by omega, hM2, hT0, hT73, hT74, rfl⟩
  ·
    simp only [decide_eq_true_eq, decide_eq_false_iff_not, Bool.not_eq_true', Bool.not_eq_false', Bool.and_eq_true, Bool.or_eq_true, Bool.or_eq_false_iff, Bool.not_not] at hc48
    refine C_exit ?_
    refine nx_exit ?_
    refine nx_exit ?_
    refine bk_hit ?_
    have hi12 : i = 12 := by omega
    subst hi12
    exact ⟨.inl rfl, [], rfl, hIi, hokH, hnH⟩
theorem words_ev {tab : Nat → Option XFun} {sp : Nat → List AV → AH → Option (AV × AH)} (h21 : tab 21 = some x21) {H : AH} (hok : H.Ok) (ns : Nat) : Ev tab sp (.fn (.func 21) [] []) [.p (some (ns, 0))] H (fun r H' => ∃ p1, r = .fn (.func 32) [] [.p (some (p1, 0))] ∧ H'.get p1 = some (.cells [.p (some (ns, 0))] true) ∧ H.next ≤ p1 ∧ Kp H H') := by
  refine Ev_C (F := x21) h21 ?_
  have hO0 := Old.refl hok
  refine C_seq ?_
  refine C_region ?_
  refine O_box (z := [(.p (some (ns, 0)))]) rfl fun n1 H2 hN3 => ?_
  have hF4 := hN3.fr (fun _ => False)
  have hO5 := hO0.new hN3
  have hx_hO5 := hO5.next
  have hnm_n1 : n1 = H.next := hN3.1
  have hnx_H2 : H2.next = H.next + 1 := hN3.2.1
  have hlt_n1 : n1 < H2.next := by omega
  refine O_p .nf (r_mv rfl) ?_
  refine O_nil ?_
  refine C_seq ?_
  refine C_region ?_
  refine O_p (.fn (.func 32) [] [(.p (some (n1, 0)))]) rfl ?_
  refine O_p (.fn (.func 32) [] [(.p (some (n1, 0)))]) (r_mv rfl) ?_
  refine O_nil ?_
  refine C_ret ?_
  exact ⟨.inr rfl, _, resL_one (r_tmp (v := (.fn (.func 32) [] [(.p (some (n1, 0)))])) rfl), n1, rfl, hN3.2.2.1, by omega, hO5⟩
theorem right_ev {tab : Nat → Option XFun} {sp : Nat → List AV → AH → Option (AV × AH)} (h20 : tab 20 = some x20) {H : AH} (hok : H.Ok) (made life tag peer first pf room out inn tie0 tie1 : Int) : Ev tab sp (.fn (.func 20) [] []) [.agg [(.i .i64 made), (.i .i64 life), (.i .u32 tag), (.i .u32 peer), (.i .u32 first), (.i .u32 pf), (.i .u32 room), (.i .u16 out), (.i .u16 inn), (.i .u32 tie0), (.i .u32 tie1)]] H (fun r H' => r = .b (((decide (0 ≤ made) && decide (made ≤ 281474976710656)) && decide (0 ≤ life)) && decide (life ≤ 281474976710656)) ∧ Kp H H') := by
  refine Ev_C (F := x20) h20 ?_
  have hO0 := Old.refl hok
  refine C_seq ?_
  refine C_region ?_
  refine O_box (z := [(.i .i64 made), (.i .i64 life), (.i .u32 tag), (.i .u32 peer), (.i .u32 first), (.i .u32 pf), (.i .u32 room), (.i .u16 out), (.i .u16 inn), (.i .u32 tie0), (.i .u32 tie1)]) rfl fun n1 H2 hN3 => ?_
  have hF4 := hN3.fr (fun _ => False)
  have hO5 := hO0.new hN3
  have hx_hO5 := hO5.next
  have hnm_n1 : n1 = H.next := hN3.1
  have hnx_H2 : H2.next = H.next + 1 := hN3.2.1
  have hlt_n1 : n1 < H2.next := by omega
  refine O_p (.b false) (r_mv rfl) ?_
  refine O_nil ?_
  refine C_seq ?_
  refine C_region ?_
  refine O_p (.p (some (n1, 0))) (r_fadd' rfl rfl) ?_
  refine O_p (.i .i64 made) (r_ld rfl hN3.2.2.1 rfl) ?_
  refine O_p (.b (decide (0 ≤ made))) (r_geq rfl rfl) ?_
  refine O_p (.b (decide (0 ≤ made))) (r_mv rfl) ?_
  refine O_gx (e := (decide (0 ≤ made))) (v := (.p (some (n1, 0)))) (wt rfl) (fun he => (r_fadd' rfl rfl)) ?_
  refine O_gx (e := (decide (0 ≤ made))) (v := (.i .i64 made)) (wt rfl) (fun he => (r_ld (cond_pos he) hN3.2.2.1 rfl)) ?_
  refine O_gx (e := (decide (0 ≤ made))) (v := (.b (decide (made ≤ 281474976710656)))) (wt rfl) (fun he => (r_leq (cond_pos he) rfl)) ?_
  refine O_p (.b ((decide (0 ≤ made)) && (decide (made ≤ 281474976710656)))) (r_pick_and rfl rfl rfl rfl) ?_
  refine O_p (.b ((decide (0 ≤ made)) && (decide (made ≤ 281474976710656)))) (r_mv rfl) ?_
  refine O_gx (e := ((decide (0 ≤ made)) && (decide (made ≤ 281474976710656)))) (v := (.p (some (n1, 1)))) (wt rfl) (fun he => (r_fadd' rfl rfl)) ?_
  refine O_gx (e := ((decide (0 ≤ made)) && (decide (made ≤ 281474976710656)))) (v := (.i .i64 life)) (wt rfl) (fun he => (r_ld (cond_pos he) hN3.2.2.1 rfl)) ?_
  refine O_gx (e := ((decide (0 ≤ made)) && (decide (made ≤ 281474976710656)))) (v := (.b (decide (0 ≤ life)))) (wt rfl) (fun he => (r_geq (cond_pos he) rfl)) ?_
  refine O_p (.b (((decide (0 ≤ made)) && (decide (made ≤ 281474976710656))) && (decide (0 ≤ life)))) (r_pick_and rfl rfl rfl rfl) ?_
  refine O_p (.b (((decide (0 ≤ made)) && (decide (made ≤ 281474976710656))) && (decide (0 ≤ life)))) (r_mv rfl) ?_
  refine O_gx (e := (((decide (0 ≤ made)) && (decide (made ≤ 281474976710656))) && (decide (0 ≤ life)))) (v := (.p (some (n1, 1)))) (wt rfl) (fun he => (r_fadd' rfl rfl)) ?_
  refine O_gx (e := (((decide (0 ≤ made)) && (decide (made ≤ 281474976710656))) && (decide (0 ≤ life)))) (v := (.i .i64 life)) (wt rfl) (fun he => (r_ld (cond_pos he) hN3.2.2.1 rfl)) ?_
  refine O_gx (e := (((decide (0 ≤ made)) && (decide (made ≤ 281474976710656))) && (decide (0 ≤ life)))) (v := (.b (decide (life ≤ 281474976710656)))) (wt rfl) (fun he => (r_leq (cond_pos he) rfl)) ?_
  refine O_p (.b ((((decide (0 ≤ made)) && (decide (made ≤ 281474976710656))) && (decide (0 ≤ life))) && (decide (life ≤ 281474976710656)))) (r_pick_and rfl rfl rfl rfl) ?_
  refine O_p (.b ((((decide (0 ≤ made)) && (decide (made ≤ 281474976710656))) && (decide (0 ≤ life))) && (decide (life ≤ 281474976710656)))) (r_mv rfl) ?_
  refine O_nil ?_
  refine C_ret ?_
  exact ⟨.inr rfl, _, resL_one (r_tmp (v := (.b ((((decide (0 ≤ made)) && (decide (made ≤ 281474976710656))) && (decide (0 ≤ life))) && (decide (life ≤ 281474976710656))))) rfl), rfl, hO5⟩
theorem same_ev {tab : Nat → Option XFun} {sp : Nat → List AV → AH → Option (AV × AH)} (h13 : tab 13 = some x13) {H : AH} (hok : H.Ok) {ba : Option (Nat × Nat)} {bn bc bg : Nat} (bhg : bg = 0 ∨ bg = 1) {lb : List UInt8} (bhb : Bs H (.sl ba bn bc bg) lb) (bhc : bn ≤ bc) (bhm : bc ≤ 9223372036854775807) {ca : Option (Nat × Nat)} {cn cc cg : Nat} (chg : cg = 0 ∨ cg = 1) {lc : List UInt8} (chb : Bs H (.sl ca cn cc cg) lc) (chc : cn ≤ cc) (chm : cc ≤ 9223372036854775807) : Ev tab sp (.fn (.func 13) [] []) [.sl ba bn bc bg, .sl ca cn cc cg] H (fun r H' => r = .b (decide (lb = lc)) ∧ H' = H) := by
  refine Ev_C (F := x13) h13 ?_
  have bhl := bhb.length
  subst bhl
  have chl := chb.length
  subst chl
  have hO0 := Old.refl hok
  refine C_seq ?_
  refine C_region ?_
  refine O_p (.b false) (r_mv rfl) ?_
  refine O_nil ?_
  refine C_seq ?_
  refine C_region ?_
  refine O_p (.sl ba lb.length bc bg) (r_mv rfl) ?_
  refine O_p (.s (txt lb)) ((bhb.old hok hO0).text rfl) ?_
  refine O_p (.sl ca lc.length cc cg) (r_mv rfl) ?_
  refine O_p (.s (txt lc)) ((chb.old hok hO0).text rfl) ?_
  refine O_p (.b (decide (lb = lc))) (r_eqt rfl rfl) ?_
  refine O_p (.b (decide (lb = lc))) (r_mv rfl) ?_
  refine O_nil ?_
  refine C_ret ?_
  exact ⟨.inr rfl, _, resL_one (r_tmp (v := (.b (decide (lb = lc)))) rfl), rfl, rfl⟩
theorem enc_t {H : AH} (hok : H.Ok) {ka : Option (Nat × Nat)} {kn kc kg : Nat} (khg : kg = 0 ∨ kg = 1) {key : List UInt8} (khb : Bs H (.sl ka kn kc kg) key) (khc : kn ≤ kc) (khm : kc ≤ 9223372036854775807) (made life tag peer first pf room out inn tie0 tie1 : Int) (hk16 : key.length = 16) (hS : okS made life = true) : Ev tabA spA (.fn (.func 10) [] []) [.sl ka kn kc kg, .agg [(.i .i64 made), (.i .i64 life), (.i .u32 tag), (.i .u32 peer), (.i .u32 first), (.i .u32 pf), (.i .u32 room), (.i .u16 out), (.i .u16 inn), (.i .u32 tie0), (.i .u32 tie1)]] H (fun r H' => ∃ v, r = .tup [v, .b true] ∧ Mine H.next 1 H' v (bcells (sealed key (b32 (wordsL made life tag peer first pf room out inn tie0 tie1)))) ∧ Kp H H') := by
  have khl := khb.length
  subst khl
  refine Ev_C (F := x10) rfl ?_
  have hO0 := Old.refl hok
  have h20 : tabA 20 = some x20 := rfl
  have h21 : tabA 21 = some x21 := rfl
  have h22 : tabA 22 = some x22 := rfl
  have h32 : tabA 32 = some x32 := rfl
  have h33 : tabA 33 = some x33 := rfl
  refine C_seq ?_
  refine C_region ?_
  refine O_box (z := [(.i .i64 made), (.i .i64 life), (.i .u32 tag), (.i .u32 peer), (.i .u32 first), (.i .u32 pf), (.i .u32 room), (.i .u16 out), (.i .u16 inn), (.i .u32 tie0), (.i .u32 tie1)]) rfl fun n1 H2 hN3 => ?_
  have hF4 := hN3.fr (fun _ => False)
  have hO5 := hO0.new hN3
  have hx_hO5 := hO5.next
  have hnm_n1 : n1 = H.next := hN3.1
  have hnx_H2 : H2.next = H.next + 1 := hN3.2.1
  have hlt_n1 : n1 < H2.next := by omega
  refine O_p (.sl none 0 0 0) (r_mv rfl) ?_
  refine O_p (.b false) (r_mv rfl) ?_
  refine O_nil ?_
  refine C_seq ?_
  refine C_seq ?_
  refine C_region ?_
  refine O_p (.sl ka key.length kc kg) (r_mv rfl) ?_
  refine O_p (.i .i64 (((key.length : Nat)) : Int)) (r_len rfl) ?_
  refine O_p (.b false) (by exact (by rw [r_neq rfl rfl, decide_eq_true (by omega)]; rfl)) ?_
  refine O_p (.b false) (r_mv rfl) ?_
  refine O_gs (v := (.agg [(.i .i64 made), (.i .i64 life), (.i .u32 tag), (.i .u32 peer), (.i .u32 first), (.i .u32 pf), (.i .u32 room), (.i .u16 out), (.i .u16 inn), (.i .u32 tie0), (.i .u32 tie1)])) rfl (r_ldA rfl hN3.2.2.1 rfl) ?_
  refine O_gcall rfl (Ev.mono (right_ev h20 hO5.ok made life tag peer first pf room out inn tie0 tie1) fun v6 H7 hq8 => ?_)
  rw [show (((decide (0 ≤ made) && decide (made ≤ 281474976710656)) && decide (0 ≤ life)) && decide (life ≤ 281474976710656)) = true from hS] at hq8
  obtain ⟨rfl, hK9⟩ := hq8
  have hb10 := (hK9.keep _ (by omega)).trans hN3.2.2.1
  have hx_hK9 := hK9.next
  have hlt_n1 : n1 < H7.next := by omega
  have hO11 := hO5.trans hK9
  have hx_hO11 := hO11.next
  refine O_gs (v := (.b false)) rfl (r_un rfl rfl) ?_
  refine O_p (.b false) (r_pick_f rfl rfl) ?_
  refine O_nil ?_
  refine C_cond (x := false) rfl (fun h => by cases h) (fun _ => ?_)
  refine C_skip ?_
  refine C_seq ?_
  refine C_region ?_
  refine O_alloc fun n12 H13 hN14 => ?_
  have hF15 := hN14.fr (fun _ => False)
  have hb16 := (hF15.keep _ (by exact hlt_n1) (fun h => h)).trans hb10
  have hO17 := hO11.new hN14
  have hx_hO17 := hO17.next
  have hnm_n12 : n12 = H7.next := hN14.1
  have hnx_H13 : H13.next = H7.next + 1 := hN14.2.1
  have hlt_n1 : n1 < H13.next := by omega
  have hlt_n12 : n12 < H13.next := by omega
  refine O_nil ?_
  refine C_seq ?_
  refine C_seq ?_
  refine C_region ?_
  refine O_call (Ev.mono (words_ev h21 hO17.ok n1) fun v18 H19 hq20 => ?_)
  obtain ⟨p1, rfl, hp1, hp1n, hK21⟩ := hq20
  have hb21 := (hK21.keep _ (by omega)).trans hb16
  have hb22 := (hK21.keep _ (by omega)).trans hN14.2.2.1
  have hx_hK21 := hK21.next
  have hlt_n1 : n1 < H19.next := by omega
  have hlt_n12 : n12 < H19.next := by omega
  have hO23 := hO17.trans hK21
  have hx_hO23 := hO23.next
  have hlt_p1 : p1 < H19.next := hK21.ok _ _ hp1
  have hpn : p1 ≠ n1 := by omega
  refine O_nil ?_
  refine C_block ?_
  refine C_rangeFn (g := 32) (first := []) (cap := [.p (some (p1, 0))]) rfl fun Tx L HL hTx hNL => ?_
  have hnmL : L = H19.next := hNL.1
  have hnxL : HL.next = H19.next + 1 := hNL.2.1
  have hFL := hNL.fr (fun _ => False)
  have hb24 := (hFL.keep _ (by omega) (fun h => h)).trans hb21
  have hb25 := (hFL.keep _ (by omega) (fun h => h)).trans hb22
  have hb26 := (hFL.keep _ (by omega) (fun h => h)).trans hp1
  have hO27 := hO23.new hNL
  have hx_hO27 := hO27.next
  have hgL := hNL.2.2.1
  have hlt_n1 : n1 < HL.next := by omega
  have hlt_n12 : n12 < HL.next := by omega
  have hlt_p1 : p1 < HL.next := by omega
  refine Ev.mono (words1_ev h32 hO27.ok made life tag peer first pf room out inn tie0 tie1 hb26 hb24 (fun i HH => HH.get L = HL.get L ∧ Old H.next H HH ∧ L < HH.next ∧ n12 < HH.next ∧ ∃ v, HH.get n12 = some (.cells [v] true) ∧ Mine H.next 1 HH v (bcells (b32 ((wordsL made life tag peer first pf room out inn tie0 tie1).take i))) ∧ ¬ v.nameOf n12 ∧ ¬ v.nameOf L) ?_ ?_) fun v2 HE hE => ?_
  ·
    intro H1 hK1
    exact ⟨hK1.keep _ (by omega), hO27.trans hK1, by have := hK1.next; omega, by have := hK1.next; omega, .sl none 0 0 0, (hK1.keep _ (by omega)).trans hb25, Mine.nil _ _ _, (fun h => by cases h), (fun h => by cases h)⟩
  ·
    rintro i HH hi ⟨hIL, hIO, hIlt, hI6, v, hIv, hIM, hIn6, hInL⟩ hokH hnH
    have hgLH := hIL.trans hgL
    have hxO := hIO.next
    have hwl : i < (wordsL made life tag peer first pf room out inn tie0 tie1).length := hi
    have hbl := b32_len ((wordsL made life tag peer first pf room out inn tie0 tie1).take i)
    rw [List.length_take] at hbl
    have h12 : (wordsL made life tag peer first pf room out inn tie0 tie1).length = 12 := rfl
    refine Ev_yield hgLH rfl ?_
    refine C.te ?_ (hTx.cons 19 _)
    have hlt_n12 : n12 < HH.next := hI6
    have hlt_L : L < HH.next := hIlt
    refine C_region ?_
    refine O_p (.i .u32 ((wordsL made life tag peer first pf room out inn tie0 tie1).getD i 0)) (r_mv rfl) ?_
    refine O_nil ?_
    refine ⟨rfl, _, _, _, _, _, hgLH, fun H2 hWb => ?_⟩
    have hb28 := (hWb.2.2 _ (by omega)).trans hIv
    have hM29 := hIM.wr hWb hInL
    have hO30 := hIO.wr hWb (by omega) (by omega)
    have hx_hO30 := hO30.next
    have hnx_H2 : H2.next = HH.next := hWb.1
    have hlt_n12 : n12 < H2.next := by omega
    have hlt_L : L < H2.next := by omega
    refine C_block ?_
    refine C_region ?_
    refine O_p v (r_ld rfl hb28 rfl) ?_
    refine O_p (.i .u32 ((wordsL made life tag peer first pf room out inn tie0 tie1).getD i 0)) (r_mv rfl) ?_
    have hsf35 : Own 1 H2 v (bcells (b32 ((wordsL made life tag peer first pf room out inn tie0 tie1).take i))) := hM29.own
    obtain ⟨oa31, og32, rfl, hog33, hob34⟩ := hsf35.bs
    have base36 := Old.refl hO30.ok
    refine O_call (Ev.mono (put32_ev h33 h22 hO30.ok hog33 (hM29.own.asbs) (by first | omega | (simp only [List.length_take, List.length_drop, List.length_append, List.length_cons, List.length_nil, beN_len] <;> omega)) (by first | omega | (simp only [List.length_take, List.length_drop, List.length_append, List.length_cons, List.length_nil, beN_len] <;> omega)) ((wordsL made life tag peer first pf room out inn tie0 tie1).getD i 0) (by first | omega | (simp only [List.length_append, List.length_cons, List.length_nil, beN_len] <;> omega))) fun v37 H38 hq39 => ?_)
    obtain ⟨hM40, hK41⟩ := hq39
    have hb42 := (hK41.keep _ (by omega)).trans hb28
    have hb43 := (hK41.keep _ (by omega)).trans hWb.2.1
    have hx_hK41 := hK41.next
    have hlt_n12 : n12 < H38.next := by omega
    have hlt_L : L < H38.next := by omega
    have hM44 := hM29.kp hK41
    have hO45 := hO30.trans hK41
    have hx_hO45 := hO45.next
    have hO46 := base36.trans hK41
    have hM47 := hM40.down (N := H.next) (by omega)
    have hd48 : ¬ v37.nameOf n12 := fun hq => by have := hM40.new _ hq; omega
    have hd49 : ¬ v37.nameOf L := fun hq => by have := hM40.new _ hq; omega
    have hsf54 : Own 1 H38 v37 (bcells ((b32 ((wordsL made life tag peer first pf room out inn tie0 tie1).take i)) ++ beN ((wordsL made life tag peer first pf room out inn tie0 tie1).getD i 0) 4)) := hM47.own
    obtain ⟨oa50, og51, rfl, hog52, hob53⟩ := hsf54.bs
    have base55 := Old.refl hO45.ok
    refine O_store (vs := [(.sl oa50 (((b32 ((wordsL made life tag peer first pf room out inn tie0 tie1).take i)) ++ beN ((wordsL made life tag peer first pf room out inn tie0 tie1).getD i 0) 4)).length (((b32 ((wordsL made life tag peer first pf room out inn tie0 tie1).take i)) ++ beN ((wordsL made life tag peer first pf room out inn tie0 tie1).getD i 0) 4)).length og51)]) (c' := [(.sl oa50 (((b32 ((wordsL made life tag peer first pf room out inn tie0 tie1).take i)) ++ beN ((wordsL made life tag peer first pf room out inn tie0 tie1).getD i 0) 4)).length (((b32 ((wordsL made life tag peer first pf room out inn tie0 tie1).take i)) ++ beN ((wordsL made life tag peer first pf room out inn tie0 tie1).getD i 0) 4)).length og51)]) rfl (by rfl) hb42 rfl (List.cons_ne_nil _ _) (Nat.le_of_ble_eq_true rfl) rfl fun H56 hW57 => ?_
    have hb58 := (hW57.2.2 _ (by omega)).trans hb43
    have hM59 := hM44.wr hW57 hIn6
    have hM60 := hM47.wr hW57 hd48
    have hO61 := hO45.wr hW57 (by omega) (by omega)
    have hx_hO61 := hO61.next
    have hnx_H56 : H56.next = H38.next := hW57.1
    have hlt_n12 : n12 < H56.next := by omega
    have hlt_L : L < H56.next := by omega
    refine O_nil ?_
    refine ⟨_, _, _, _, _, hb58, fun H4 hWr => ?_⟩
    have hb62 := (hWr.2.2 _ (by omega)).trans hW57.2.1
    have hM63 := hM59.wr hWr hInL
    have hM64 := hM60.wr hWr hd49
    have hO65 := hO61.wr hWr (by omega) (by omega)
    have hx_hO65 := hO65.next
    have hnx_H4 : H4.next = H56.next := hWr.1
    have hlt_n12 : n12 < H4.next := by omega
    have hlt_L : L < H4.next := by omega
    have hfin : Mine H.next 1 H4 (.sl oa50 (((b32 ((wordsL made life tag peer first pf room out inn tie0 tie1).take i)) ++ beN ((wordsL made life tag peer first pf room out inn tie0 tie1).getD i 0) 4)).length (((b32 ((wordsL made life tag peer first pf room out inn tie0 tie1).take i)) ++ beN ((wordsL made life tag peer first pf room out inn tie0 tie1).getD i 0) 4)).length og51) (bcells (b32 ((wordsL made life tag peer first pf room out inn tie0 tie1).take (i + 1)))) := by rw [b32_succ hwl]; exact hM64
    exact ⟨rfl, ⟨hWr.2.1.trans hgL.symm, hO65, by omega, by omega, _, hb62, hfin, hd48, hd49⟩, hO65.ok, by omega, fun m hm hmL => ((hWr.2.2 m (by omega)).trans ((hW57.2.2 m (by omega)).trans ((hK41.keep m (by omega)).trans (hWb.2.2 m (by omega)))))⟩
  obtain ⟨⟨hEL, hEO, hElt, hE6, v6, hEv, hEM, hEn6, hEnL⟩, hokE, hnE⟩ := hE
  refine ⟨.ready, none, _, _, _, _, hEL.trans hgL, by decide, fun HD hD => ?_⟩
  have hOD := hEO.drp hD (by omega)
  have hxOD := hOD.next
  have hnxD : HD.next = HE.next := hD.1
  have hMD : Mine H.next 1 HD v6 (bcells (b32 (wordsL made life tag peer first pf room out inn tie0 tie1))) := by have h := hEM.drp hD hEnL; rw [show (wordsL made life tag peer first pf room out inn tie0 tie1).take 12 = (wordsL made life tag peer first pf room out inn tie0 tie1) from rfl] at h; exact h
  have hD6 := (hD.2.2 _ (by omega)).trans hEv
  have hlt_n12 : n12 < HD.next := by omega
  have hbl12 : (b32 (wordsL made life tag peer first pf room out inn tie0 tie1)).length = 48 := b32_len _
  refine C_seq ?_
  refine C_region ?_
  refine O_p (.sl ka key.length kc kg) (r_mv rfl) ?_
  refine O_p v6 (r_ld rfl hD6 rfl) ?_
  have hsf70 : Own 1 HD v6 (bcells (b32 (wordsL made life tag peer first pf room out inn tie0 tie1))) := hMD.own
  obtain ⟨oa66, og67, rfl, hog68, hob69⟩ := hsf70.bs
  have base71 := Old.refl hOD.ok
  refine O_call (Ev.mono (code10 hOD.ok khg (khb.old hok hOD) (by first | omega | (simp only [List.length_take, List.length_drop, List.length_append, List.length_cons, List.length_nil, beN_len] <;> omega)) (by first | omega | (simp only [List.length_take, List.length_drop, List.length_append, List.length_cons, List.length_nil, beN_len] <;> omega)) hog68 (hMD.own.asbs) (by first | omega | (simp only [List.length_take, List.length_drop, List.length_append, List.length_cons, List.length_nil, beN_len] <;> omega)) (by first | omega | (simp only [List.length_take, List.length_drop, List.length_append, List.length_cons, List.length_nil, beN_len] <;> omega)) (by first | omega | (simp only [List.length_take, List.length_drop, List.length_append, List.length_cons, List.length_nil, beN_len] <;> omega))) fun v72 H73 hq74 => ?_)
  rw [if_pos hk16, decide_eq_true hk16] at hq74
  obtain ⟨rfl, hK75⟩ := hq74
  have hb76 := (hK75.keep _ (by omega)).trans hD6
  have hx_hK75 := hK75.next
  have hlt_n12 : n12 < H73.next := by omega
  have hM77 := hMD.kp hK75
  have hO78 := hOD.trans hK75
  have hx_hO78 := hO78.next
  have hO79 := base71.trans hK75
  refine O_p (.tup [(.i .u64 (code key (b32 (wordsL made life tag peer first pf room out inn tie0 tie1)))), (.b true)]) (r_mv rfl) ?_
  refine O_p (.i .u64 (code key (b32 (wordsL made life tag peer first pf room out inn tie0 tie1)))) (r_ext rfl rfl) ?_
  refine O_p (.b true) (r_ext rfl rfl) ?_
  refine O_p (.i .u64 (code key (b32 (wordsL made life tag peer first pf room out inn tie0 tie1)))) (r_mv rfl) ?_
  refine O_p (.b true) (r_mv rfl) ?_
  refine O_nil ?_
  refine C_seq ?_
  refine C_region ?_
  refine O_p (.sl oa66 ((b32 (wordsL made life tag peer first pf room out inn tie0 tie1))).length ((b32 (wordsL made life tag peer first pf room out inn tie0 tie1))).length og67) (r_ld rfl hb76 rfl) ?_
  refine O_p (.i .u64 (code key (b32 (wordsL made life tag peer first pf room out inn tie0 tie1)))) (r_mv rfl) ?_
  refine O_p (.i .u64 (Int.fdiv (code key (b32 (wordsL made life tag peer first pf room out inn tie0 tie1))) (2 ^ 32))) (r_bin rfl rfl rfl) ?_
  refine O_p (.i .u32 (IntKind.u32.wrap (Int.fdiv (code key (b32 (wordsL made life tag peer first pf room out inn tie0 tie1))) (2 ^ 32)))) (r_cint rfl) ?_
  refine O_call (Ev.mono (put32_ev h33 h22 hO78.ok hog68 (hM77.own.asbs) (by first | omega | (simp only [List.length_take, List.length_drop, List.length_append, List.length_cons, List.length_nil, beN_len] <;> omega)) (by first | omega | (simp only [List.length_take, List.length_drop, List.length_append, List.length_cons, List.length_nil, beN_len] <;> omega)) (IntKind.u32.wrap (Int.fdiv (code key (b32 (wordsL made life tag peer first pf room out inn tie0 tie1))) (2 ^ 32))) (by first | omega | (simp only [List.length_append, List.length_cons, List.length_nil, beN_len] <;> omega))) fun v80 H81 hq82 => ?_)
  obtain ⟨hM83, hK84⟩ := hq82
  have hb85 := (hK84.keep _ (by omega)).trans hb76
  have hx_hK84 := hK84.next
  have hlt_n12 : n12 < H81.next := by omega
  have hM86 := hM77.kp hK84
  have hO87 := hO78.trans hK84
  have hx_hO87 := hO87.next
  have hO88 := hO79.trans hK84
  have hM89 := hM83.down (N := H.next) (by omega)
  have hd90 : ¬ v80.nameOf n12 := fun hq => by have := hM83.new _ hq; omega
  refine O_p (.i .u64 (code key (b32 (wordsL made life tag peer first pf room out inn tie0 tie1)))) (r_mv rfl) ?_
  refine O_p (.i .u32 (IntKind.u32.wrap (code key (b32 (wordsL made life tag peer first pf room out inn tie0 tie1))))) (r_cint rfl) ?_
  have hsf95 : Own 1 H81 v80 (bcells ((b32 (wordsL made life tag peer first pf room out inn tie0 tie1)) ++ beN (IntKind.u32.wrap (Int.fdiv (code key (b32 (wordsL made life tag peer first pf room out inn tie0 tie1))) (2 ^ 32))) 4)) := hM89.own
  obtain ⟨oa91, og92, rfl, hog93, hob94⟩ := hsf95.bs
  have base96 := Old.refl hO87.ok
  refine O_call (Ev.mono (put32_ev h33 h22 hO87.ok hog93 (hM89.own.asbs) (by first | omega | (simp only [List.length_take, List.length_drop, List.length_append, List.length_cons, List.length_nil, beN_len] <;> omega)) (by first | omega | (simp only [List.length_take, List.length_drop, List.length_append, List.length_cons, List.length_nil, beN_len] <;> omega)) (IntKind.u32.wrap (code key (b32 (wordsL made life tag peer first pf room out inn tie0 tie1)))) (by first | omega | (simp only [List.length_append, List.length_cons, List.length_nil, beN_len] <;> omega))) fun v97 H98 hq99 => ?_)
  obtain ⟨hM100, hK101⟩ := hq99
  have hb102 := (hK101.keep _ (by omega)).trans hb85
  have hx_hK101 := hK101.next
  have hlt_n12 : n12 < H98.next := by omega
  have hM103 := hM86.kp hK101
  have hM104 := hM89.kp hK101
  have hO105 := hO87.trans hK101
  have hx_hO105 := hO105.next
  have hO106 := hO88.trans hK101
  have hO107 := base96.trans hK101
  have hM108 := hM100.down (N := H.next) (by omega)
  have hd109 : ¬ v97.nameOf n12 := fun hq => by have := hM100.new _ hq; omega
  refine O_qh (by exact r_app (n := ((((b32 (wordsL made life tag peer first pf room out inn tie0 tie1)) ++ beN (IntKind.u32.wrap (Int.fdiv (code key (b32 (wordsL made life tag peer first pf room out inn tie0 tie1))) (2 ^ 32))) 4) ++ beN (IntKind.u32.wrap (code key (b32 (wordsL made life tag peer first pf room out inn tie0 tie1)))) 4)).length) (k := 4) (new := (bcells [66, 79, 76, 49])) hO105.ok hO105.next hM108 ((bcells_len _).trans (Nat.mul_one _).symm) rfl rfl rfl rfl rfl (by decide) (by decide) (by first | omega | (simp only [List.length_take, List.length_drop, List.length_append, List.length_cons, List.length_nil, beN_len] <;> omega))) fun o110 H111 hA112 => ?_
  have hx_H111 := hA112.2.1
  have hb113 := (hA112.2.2.1 _ (by omega) hd109).trans hb102
  have hlt_n12 : n12 < H111.next := by omega
  have hO114 := hA112.old hM108 hO105
  have hx_hO114 := hO114.next
  have hd115 := hA112.dis (n := n12) (by omega) hd109
  refine O_p o110 (r_mv rfl) ?_
  refine O_p (.b true) (r_mv rfl) ?_
  refine O_nil ?_
  refine C_ret ?_
  have hfin : Mine H.next 1 H111 o110 (bcells (sealed key (b32 (wordsL made life tag peer first pf room out inn tie0 tie1)))) := by have h := hA112.1; unfold sealed; rw [← bcells_append]; exact h
  exact ⟨.inr rfl, _, resL_cons (r_tmp (v := o110) rfl) (resL_one (r_tmp (v := .b true) rfl)), _, rfl, hfin, hO114⟩
theorem enc_f1 {H : AH} (hok : H.Ok) {ka : Option (Nat × Nat)} {kn kc kg : Nat} (khg : kg = 0 ∨ kg = 1) {key : List UInt8} (khb : Bs H (.sl ka kn kc kg) key) (khc : kn ≤ kc) (khm : kc ≤ 9223372036854775807) (made life tag peer first pf room out inn tie0 tie1 : Int) (hk16 : key.length = 16) (hS : okS made life = false) : Ev tabA spA (.fn (.func 10) [] []) [.sl ka kn kc kg, .agg [(.i .i64 made), (.i .i64 life), (.i .u32 tag), (.i .u32 peer), (.i .u32 first), (.i .u32 pf), (.i .u32 room), (.i .u16 out), (.i .u16 inn), (.i .u32 tie0), (.i .u32 tie1)]] H (fun r H' => ∃ v, r = .tup [v, .b false] ∧ Mine H.next 1 H' v [] ∧ Kp H H') := by
  have khl := khb.length
  subst khl
  refine Ev_C (F := x10) rfl ?_
  have hO0 := Old.refl hok
  have h20 : tabA 20 = some x20 := rfl
  have h21 : tabA 21 = some x21 := rfl
  have h22 : tabA 22 = some x22 := rfl
  have h32 : tabA 32 = some x32 := rfl
  have h33 : tabA 33 = some x33 := rfl
  refine C_seq ?_
  refine C_region ?_
  refine O_box (z := [(.i .i64 made), (.i .i64 life), (.i .u32 tag), (.i .u32 peer), (.i .u32 first), (.i .u32 pf), (.i .u32 room), (.i .u16 out), (.i .u16 inn), (.i .u32 tie0), (.i .u32 tie1)]) rfl fun n1 H2 hN3 => ?_
  have hF4 := hN3.fr (fun _ => False)
  have hO5 := hO0.new hN3
  have hx_hO5 := hO5.next
  have hnm_n1 : n1 = H.next := hN3.1
  have hnx_H2 : H2.next = H.next + 1 := hN3.2.1
  have hlt_n1 : n1 < H2.next := by omega
  refine O_p (.sl none 0 0 0) (r_mv rfl) ?_
  refine O_p (.b false) (r_mv rfl) ?_
  refine O_nil ?_
  refine C_seq ?_
  refine C_seq ?_
  refine C_region ?_
  refine O_p (.sl ka key.length kc kg) (r_mv rfl) ?_
  refine O_p (.i .i64 (((key.length : Nat)) : Int)) (r_len rfl) ?_
  refine O_p (.b false) (by exact (by rw [r_neq rfl rfl, decide_eq_true (by omega)]; rfl)) ?_
  refine O_p (.b false) (r_mv rfl) ?_
  refine O_gs (v := (.agg [(.i .i64 made), (.i .i64 life), (.i .u32 tag), (.i .u32 peer), (.i .u32 first), (.i .u32 pf), (.i .u32 room), (.i .u16 out), (.i .u16 inn), (.i .u32 tie0), (.i .u32 tie1)])) rfl (r_ldA rfl hN3.2.2.1 rfl) ?_
  refine O_gcall rfl (Ev.mono (right_ev h20 hO5.ok made life tag peer first pf room out inn tie0 tie1) fun v6 H7 hq8 => ?_)
  rw [show (((decide (0 ≤ made) && decide (made ≤ 281474976710656)) && decide (0 ≤ life)) && decide (life ≤ 281474976710656)) = false from hS] at hq8
  obtain ⟨rfl, hK9⟩ := hq8
  have hb10 := (hK9.keep _ (by omega)).trans hN3.2.2.1
  have hx_hK9 := hK9.next
  have hlt_n1 : n1 < H7.next := by omega
  have hO11 := hO5.trans hK9
  have hx_hO11 := hO11.next
  refine O_gs (v := (.b true)) rfl (r_un rfl rfl) ?_
  refine O_p (.b true) (r_pick_f rfl rfl) ?_
  refine O_nil ?_
  refine C_cond (x := true) rfl (fun _ => ?_) (fun h => by cases h)
  refine C_seq ?_
  refine C_region ?_
  refine O_p (.sl none 0 0 0) (r_mv rfl) ?_
  refine O_p (.b false) (r_mv rfl) ?_
  refine O_nil ?_
  refine C_ret ?_
  refine nx_ret ?_
  exact ⟨.inr rfl, _, resL_cons (r_tmp (v := .sl none 0 0 0) rfl) (resL_one (r_tmp (v := .b false) rfl)), _, rfl, Mine.nil _ _ _, hO11⟩
theorem enc_f2 {H : AH} (hok : H.Ok) {ka : Option (Nat × Nat)} {kn kc kg : Nat} (khg : kg = 0 ∨ kg = 1) {key : List UInt8} (khb : Bs H (.sl ka kn kc kg) key) (khc : kn ≤ kc) (khm : kc ≤ 9223372036854775807) (made life tag peer first pf room out inn tie0 tie1 : Int) (hk16 : ¬ key.length = 16) : Ev tabA spA (.fn (.func 10) [] []) [.sl ka kn kc kg, .agg [(.i .i64 made), (.i .i64 life), (.i .u32 tag), (.i .u32 peer), (.i .u32 first), (.i .u32 pf), (.i .u32 room), (.i .u16 out), (.i .u16 inn), (.i .u32 tie0), (.i .u32 tie1)]] H (fun r H' => ∃ v, r = .tup [v, .b false] ∧ Mine H.next 1 H' v [] ∧ Kp H H') := by
  have khl := khb.length
  subst khl
  refine Ev_C (F := x10) rfl ?_
  have hO0 := Old.refl hok
  have h20 : tabA 20 = some x20 := rfl
  have h21 : tabA 21 = some x21 := rfl
  have h22 : tabA 22 = some x22 := rfl
  have h32 : tabA 32 = some x32 := rfl
  have h33 : tabA 33 = some x33 := rfl
  refine C_seq ?_
  refine C_region ?_
  refine O_box (z := [(.i .i64 made), (.i .i64 life), (.i .u32 tag), (.i .u32 peer), (.i .u32 first), (.i .u32 pf), (.i .u32 room), (.i .u16 out), (.i .u16 inn), (.i .u32 tie0), (.i .u32 tie1)]) rfl fun n1 H2 hN3 => ?_
  have hF4 := hN3.fr (fun _ => False)
  have hO5 := hO0.new hN3
  have hx_hO5 := hO5.next
  have hnm_n1 : n1 = H.next := hN3.1
  have hnx_H2 : H2.next = H.next + 1 := hN3.2.1
  have hlt_n1 : n1 < H2.next := by omega
  refine O_p (.sl none 0 0 0) (r_mv rfl) ?_
  refine O_p (.b false) (r_mv rfl) ?_
  refine O_nil ?_
  refine C_seq ?_
  refine C_seq ?_
  refine C_region ?_
  refine O_p (.sl ka key.length kc kg) (r_mv rfl) ?_
  refine O_p (.i .i64 (((key.length : Nat)) : Int)) (r_len rfl) ?_
  refine O_p (.b true) (by exact (by rw [r_neq rfl rfl, decide_eq_false (by omega)]; rfl)) ?_
  refine O_p (.b true) (r_mv rfl) ?_
  refine O_gf rfl ?_
  refine O_gf rfl ?_
  refine O_gf rfl ?_
  refine O_p (.b true) (r_pick_t rfl rfl) ?_
  refine O_nil ?_
  refine C_cond (x := true) rfl (fun _ => ?_) (fun h => by cases h)
  refine C_seq ?_
  refine C_region ?_
  refine O_p (.sl none 0 0 0) (r_mv rfl) ?_
  refine O_p (.b false) (r_mv rfl) ?_
  refine O_nil ?_
  refine C_ret ?_
  refine nx_ret ?_
  exact ⟨.inr rfl, _, resL_cons (r_tmp (v := .sl none 0 0 0) rfl) (resL_one (r_tmp (v := .b false) rfl)), _, rfl, Mine.nil _ _ _, hO5⟩
theorem rput8_ev {H : AH} (hok : H.Ok) {ba : Option (Nat × Nat)} {bn bc bg : Nat} (bhg : bg = 0 ∨ bg = 1) {lb : List UInt8} (bhb : Bs H (.sl ba bn bc bg) lb) (bhc : bn ≤ bc) (bhm : bc ≤ 9223372036854775807) (v : Int)  (hfit : bn ≤ 100000) : Ev tabA spA (.fn (.func 25) [] []) [.sl ba bn bc bg, .i .i64 v, .i .i64 8] H (fun r H' => Mine H.next 1 H' r (bcells ((lb ++ beN (w32 (Int.fdiv v (2 ^ 32))) 4) ++ beN (w32 v) 4)) ∧ Kp H H') := by
  refine Ev_C (F := x25) rfl ?_
  have bhl := bhb.length
  subst bhl
  have hO0 := Old.refl hok
  have h37 : tabA 37 = some x37 := rfl
  refine C_seq ?_
  refine C_region ?_
  refine O_p (.sl none 0 0 0) (r_mv rfl) ?_
  refine O_nil ?_
  refine C_seq ?_
  refine C_seq ?_
  refine C_region ?_
  refine O_p (.i .i64 8) (r_mv rfl) ?_
  refine O_p (.b true) (r_bin rfl rfl rfl) ?_
  refine O_nil ?_
  refine C_cond (x := true) rfl (fun _ => ?_) (fun h => by cases h)
  refine C_seq ?_
  refine C_region ?_
  refine O_p (.sl ba lb.length bc bg) (r_mv rfl) ?_
  refine O_p (.i .i64 v) (r_mv rfl) ?_
  refine O_p (.i .i64 (Int.fdiv v (2 ^ 32))) (r_bin rfl rfl rfl) ?_
  refine O_p (.i .u32 (IntKind.u32.wrap (Int.fdiv v (2 ^ 32)))) (r_cint rfl) ?_
  refine O_call (Ev.mono (rput_ev h37 hO0.ok bhg (bhb.old hok hO0) (by first | omega | (simp only [List.length_take, List.length_drop, List.length_append, List.length_cons, List.length_nil, beN_len] <;> omega)) (by first | omega | (simp only [List.length_take, List.length_drop, List.length_append, List.length_cons, List.length_nil, beN_len] <;> omega)) (IntKind.u32.wrap (Int.fdiv v (2 ^ 32))) (n := 4) (by decide) (by first | omega | (simp only [List.length_append, List.length_cons, List.length_nil, beN_len] <;> omega))) fun v1 H2 hq3 => ?_)
  obtain ⟨hM4, hK5⟩ := hq3
  have hx_hK5 := hK5.next
  have hO6 := hO0.trans hK5
  have hx_hO6 := hO6.next
  have hM7 := hM4.down (N := H.next) (by omega)
  refine O_p (.i .i64 v) (r_mv rfl) ?_
  refine O_p (.i .u32 (IntKind.u32.wrap v)) (r_cint rfl) ?_
  have hsf12 : Own 1 H2 v1 (bcells (lb ++ beN (IntKind.u32.wrap (Int.fdiv v (2 ^ 32))) 4)) := hM7.own
  obtain ⟨oa8, og9, rfl, hog10, hob11⟩ := hsf12.bs
  have base13 := Old.refl hO6.ok
  refine O_call (Ev.mono (rput_ev h37 hO6.ok hog10 (hM7.own.asbs) (by first | omega | (simp only [List.length_take, List.length_drop, List.length_append, List.length_cons, List.length_nil, beN_len] <;> omega)) (by first | omega | (simp only [List.length_take, List.length_drop, List.length_append, List.length_cons, List.length_nil, beN_len] <;> omega)) (IntKind.u32.wrap v) (n := 4) (by decide) (by first | omega | (simp only [List.length_append, List.length_cons, List.length_nil, beN_len] <;> omega))) fun v14 H15 hq16 => ?_)
  obtain ⟨hM17, hK18⟩ := hq16
  have hx_hK18 := hK18.next
  have hM19 := hM7.kp hK18
  have hO20 := hO6.trans hK18
  have hx_hO20 := hO20.next
  have hO21 := base13.trans hK18
  have hM22 := hM17.down (N := H.next) (by omega)
  refine O_p v14 (r_mv rfl) ?_
  refine O_nil ?_
  refine C_ret ?_
  refine nx_ret ?_
  exact ⟨.inr rfl, _, resL_one (r_tmp (v := v14) rfl), hM22, hO20⟩
theorem rputn_ev {H : AH} (hok : H.Ok) {ba : Option (Nat × Nat)} {bn bc bg : Nat} (bhg : bg = 0 ∨ bg = 1) {lb : List UInt8} (bhb : Bs H (.sl ba bn bc bg) lb) (bhc : bn ≤ bc) (bhm : bc ≤ 9223372036854775807) (v : Int) {n : Nat} (hn : n ≤ 4) (hfit : bn ≤ 100000) : Ev tabA spA (.fn (.func 25) [] []) [.sl ba bn bc bg, .i .i64 v, .i .i64 (((n : Nat)) : Int)] H (fun r H' => Mine H.next 1 H' r (bcells (lb ++ beN (w32 v) n)) ∧ Kp H H') := by
  refine Ev_C (F := x25) rfl ?_
  have bhl := bhb.length
  subst bhl
  have hO0 := Old.refl hok
  have h37 : tabA 37 = some x37 := rfl
  refine C_seq ?_
  refine C_region ?_
  refine O_p (.sl none 0 0 0) (r_mv rfl) ?_
  refine O_nil ?_
  refine C_seq ?_
  refine C_seq ?_
  refine C_region ?_
  refine O_p (.i .i64 (((n : Nat)) : Int)) (r_mv rfl) ?_
  refine O_p (.b false) (by exact (by rw [r_eql rfl rfl, decide_eq_false (by omega)])) ?_
  refine O_nil ?_
  refine C_cond (x := false) rfl (fun h => by cases h) (fun _ => ?_)
  refine C_skip ?_
  refine C_seq ?_
  refine C_region ?_
  refine O_p (.sl ba lb.length bc bg) (r_mv rfl) ?_
  refine O_p (.i .i64 v) (r_mv rfl) ?_
  refine O_p (.i .u32 (IntKind.u32.wrap v)) (r_cint rfl) ?_
  refine O_p (.i .i64 (((n : Nat)) : Int)) (r_mv rfl) ?_
  refine O_call (Ev.mono (rput_ev h37 hO0.ok bhg (bhb.old hok hO0) (by first | omega | (simp only [List.length_take, List.length_drop, List.length_append, List.length_cons, List.length_nil, beN_len] <;> omega)) (by first | omega | (simp only [List.length_take, List.length_drop, List.length_append, List.length_cons, List.length_nil, beN_len] <;> omega)) (IntKind.u32.wrap v) (n := n) hn (by first | omega | (simp only [List.length_append, List.length_cons, List.length_nil, beN_len] <;> omega))) fun v1 H2 hq3 => ?_)
  obtain ⟨hM4, hK5⟩ := hq3
  have hx_hK5 := hK5.next
  have hO6 := hO0.trans hK5
  have hx_hO6 := hO6.next
  have hM7 := hM4.down (N := H.next) (by omega)
  refine O_p v1 (r_mv rfl) ?_
  refine O_nil ?_
  refine C_ret ?_
  exact ⟨.inr rfl, _, resL_one (r_tmp (v := v1) rfl), hM7, hO6⟩
theorem coded_ev {H : AH} (hok : H.Ok) {ka : Option (Nat × Nat)} {kn kc kg : Nat} (khg : kg = 0 ∨ kg = 1) {key : List UInt8} (khb : Bs H (.sl ka kn kc kg) key) (khc : kn ≤ kc) (khm : kc ≤ 9223372036854775807) {ba : Option (Nat × Nat)} {bn bc bg : Nat} (bhg : bg = 0 ∨ bg = 1) {lb : List UInt8} (bhb : Bs H (.sl ba bn bc bg) lb) (bhc : bn ≤ bc) (bhm : bc ≤ 9223372036854775807) (hk16 : key.length = 16) (hfit : bn ≤ 10000) : Ev tabA spA (.fn (.func 26) [] []) [.sl ka kn kc kg, .sl ba bn bc bg] H (fun r H' => Mine H.next 1 H' r (bcells (sealed key lb)) ∧ Kp H H') := by
  have khl := khb.length
  subst khl
  refine Ev_C (F := x26) rfl ?_
  have bhl := bhb.length
  subst bhl
  have hO0 := Old.refl hok
  refine C_seq ?_
  refine C_region ?_
  refine O_p (.sl none 0 0 0) (r_mv rfl) ?_
  refine O_nil ?_
  refine C_seq ?_
  refine C_region ?_
  refine O_p (.sl ka key.length kc kg) (r_mv rfl) ?_
  refine O_p (.sl ba lb.length bc bg) (r_mv rfl) ?_
  refine O_call (Ev.mono (code11 hO0.ok khg (khb.old hok hO0) (by first | omega | (simp only [List.length_take, List.length_drop, List.length_append, List.length_cons, List.length_nil, beN_len] <;> omega)) (by first | omega | (simp only [List.length_take, List.length_drop, List.length_append, List.length_cons, List.length_nil, beN_len] <;> omega)) bhg (bhb.old hok hO0) (by first | omega | (simp only [List.length_take, List.length_drop, List.length_append, List.length_cons, List.length_nil, beN_len] <;> omega)) (by first | omega | (simp only [List.length_take, List.length_drop, List.length_append, List.length_cons, List.length_nil, beN_len] <;> omega)) (by first | omega | (simp only [List.length_take, List.length_drop, List.length_append, List.length_cons, List.length_nil, beN_len] <;> omega))) fun v1 H2 hq3 => ?_)
  rw [if_pos hk16, decide_eq_true hk16] at hq3
  obtain ⟨rfl, hK4⟩ := hq3
  have hx_hK4 := hK4.next
  have hO5 := hO0.trans hK4
  have hx_hO5 := hO5.next
  refine O_p (.tup [(.i .u64 (code key lb)), (.b true)]) (r_mv rfl) ?_
  refine O_p (.i .u64 (code key lb)) (r_ext rfl rfl) ?_
  refine O_p (.b true) (r_ext rfl rfl) ?_
  refine O_p (.i .u64 (code key lb)) (r_mv rfl) ?_
  refine O_p (.b true) (r_mv rfl) ?_
  refine O_nil ?_
  refine C_seq ?_
  refine C_region ?_
  refine O_p (.sl ba lb.length bc bg) (r_mv rfl) ?_
  refine O_p (.i .u64 (code key lb)) (r_mv rfl) ?_
  refine O_p (.i .i64 (IntKind.i64.wrap (code key lb))) (r_cint rfl) ?_
  refine O_call (Ev.mono (rput8_ev hO5.ok bhg (bhb.old hok hO5) (by first | omega | (simp only [List.length_take, List.length_drop, List.length_append, List.length_cons, List.length_nil, beN_len] <;> omega)) (by first | omega | (simp only [List.length_take, List.length_drop, List.length_append, List.length_cons, List.length_nil, beN_len] <;> omega)) (IntKind.i64.wrap (code key lb)) (by first | omega | (simp only [List.length_append, List.length_cons, List.length_nil, beN_len] <;> omega))) fun v6 H7 hq8 => ?_)
  obtain ⟨hM9, hK10⟩ := hq8
  have hx_hK10 := hK10.next
  have hO11 := hO5.trans hK10
  have hx_hO11 := hO11.next
  have hM12 := hM9.down (N := H.next) (by omega)
  refine O_qh (by exact r_app (n := (((lb ++ beN (w32 (Int.fdiv (IntKind.i64.wrap (code key lb)) (2 ^ 32))) 4) ++ beN (w32 (IntKind.i64.wrap (code key lb))) 4)).length) (k := 4) (new := (bcells [66, 79, 76, 49])) hO11.ok hO11.next hM12 ((bcells_len _).trans (Nat.mul_one _).symm) rfl rfl rfl rfl rfl (by decide) (by decide) (by first | omega | (simp only [List.length_take, List.length_drop, List.length_append, List.length_cons, List.length_nil, beN_len] <;> omega))) fun o13 H14 hA15 => ?_
  have hx_H14 := hA15.2.1
  have hO16 := hA15.old hM12 hO11
  have hx_hO16 := hO16.next
  refine O_p o13 (r_mv rfl) ?_
  refine O_nil ?_
  refine C_ret ?_
  have hfin : Mine H.next 1 H14 o13 (bcells (sealed key lb)) := by have h := hA15.1; rw [w32_hi, w32_lo] at h; unfold sealed; rw [← bcells_append]; exact h
  exact ⟨.inr rfl, _, resL_one (r_tmp (v := o13) rfl), hfin, hO16⟩
theorem theirs_ev {tab : Nat → Option XFun} {sp : Nat → List AV → AH → Option (AV × AH)} (h12 : tab 12 = some x12) {H : AH} (hok : H.Ok) (made life tag peer first pf room out inn tie0 tie1 : Int) (ht : 0 ≤ tag ∧ tag < 4294967296) (hp : 0 ≤ peer ∧ peer < 4294967296) (hf : 0 ≤ first ∧ first < 4294967296) (hpf : 0 ≤ pf ∧ pf < 4294967296) (hr : 0 ≤ room ∧ room < 4294967296) (ho : 0 ≤ out ∧ out < 65536) (hi : 0 ≤ inn ∧ inn < 65536) (h0 : 0 ≤ tie0 ∧ tie0 < 4294967296) (h1 : 0 ≤ tie1 ∧ tie1 < 4294967296) : Ev tab sp (.fn (.func 12) [] []) [.agg [(.i .i64 made), (.i .i64 life), (.i .u32 tag), (.i .u32 peer), (.i .u32 first), (.i .u32 pf), (.i .u32 room), (.i .u16 out), (.i .u16 inn), (.i .u32 tie0), (.i .u32 tie1)]] H (fun r H' => r = .agg [(.i .i64 made), (.i .i64 life), (.i .i64 tag), (.i .i64 peer), (.i .i64 first), (.i .i64 pf), (.i .i64 room), (.i .i64 tie0), (.i .i64 tie1), (.i .i64 out), (.i .i64 inn)] ∧ Kp H H') := by
  refine Ev_C (F := x12) h12 ?_
  have hO0 := Old.refl hok
  refine C_seq ?_
  refine C_region ?_
  refine O_box (z := [(.i .i64 made), (.i .i64 life), (.i .u32 tag), (.i .u32 peer), (.i .u32 first), (.i .u32 pf), (.i .u32 room), (.i .u16 out), (.i .u16 inn), (.i .u32 tie0), (.i .u32 tie1)]) rfl fun n1 H2 hN3 => ?_
  have hF4 := hN3.fr (fun _ => False)
  have hO5 := hO0.new hN3
  have hx_hO5 := hO5.next
  have hnm_n1 : n1 = H.next := hN3.1
  have hnx_H2 : H2.next = H.next + 1 := hN3.2.1
  have hlt_n1 : n1 < H2.next := by omega
  refine O_alloc fun n6 H7 hN8 => ?_
  have hF9 := hN8.fr (fun _ => False)
  have hb10 := (hF9.keep _ (by exact hlt_n1) (fun h => h)).trans hN3.2.2.1
  have hO11 := hO5.new hN8
  have hx_hO11 := hO11.next
  have hnm_n6 : n6 = H2.next := hN8.1
  have hnx_H7 : H7.next = H2.next + 1 := hN8.2.1
  have hlt_n1 : n1 < H7.next := by omega
  have hlt_n6 : n6 < H7.next := by omega
  refine O_nil ?_
  refine C_seq ?_
  refine C_region ?_
  refine O_p (.p (some (n1, 0))) (r_fadd' rfl rfl) ?_
  refine O_p (.i .i64 made) (r_ld rfl hb10 rfl) ?_
  refine O_p (.p (some (n1, 1))) (r_fadd' rfl rfl) ?_
  refine O_p (.i .i64 life) (r_ld rfl hb10 rfl) ?_
  refine O_p (.p (some (n1, 2))) (r_fadd' rfl rfl) ?_
  refine O_p (.i .u32 tag) (r_ld rfl hb10 rfl) ?_
  refine O_p (.i .i64 tag) (by exact (r_cint' rfl (wrap_i64 (by omega) (by omega)))) ?_
  refine O_p (.p (some (n1, 3))) (r_fadd' rfl rfl) ?_
  refine O_p (.i .u32 peer) (r_ld rfl hb10 rfl) ?_
  refine O_p (.i .i64 peer) (by exact (r_cint' rfl (wrap_i64 (by omega) (by omega)))) ?_
  refine O_p (.p (some (n1, 4))) (r_fadd' rfl rfl) ?_
  refine O_p (.i .u32 first) (r_ld rfl hb10 rfl) ?_
  refine O_p (.i .i64 first) (by exact (r_cint' rfl (wrap_i64 (by omega) (by omega)))) ?_
  refine O_p (.p (some (n1, 5))) (r_fadd' rfl rfl) ?_
  refine O_p (.i .u32 pf) (r_ld rfl hb10 rfl) ?_
  refine O_p (.i .i64 pf) (by exact (r_cint' rfl (wrap_i64 (by omega) (by omega)))) ?_
  refine O_p (.p (some (n1, 6))) (r_fadd' rfl rfl) ?_
  refine O_p (.i .u32 room) (r_ld rfl hb10 rfl) ?_
  refine O_p (.i .i64 room) (by exact (r_cint' rfl (wrap_i64 (by omega) (by omega)))) ?_
  refine O_p (.p (some (n1, 9))) (r_fadd' rfl rfl) ?_
  refine O_p (.p (some (n1, 9))) (r_iarr' rfl rfl rfl rfl) ?_
  refine O_p (.i .u32 tie0) (r_ld rfl hb10 rfl) ?_
  refine O_p (.i .i64 tie0) (by exact (r_cint' rfl (wrap_i64 (by omega) (by omega)))) ?_
  refine O_p (.p (some (n1, 9))) (r_fadd' rfl rfl) ?_
  refine O_p (.p (some (n1, 10))) (r_iarr' rfl rfl rfl rfl) ?_
  refine O_p (.i .u32 tie1) (r_ld rfl hb10 rfl) ?_
  refine O_p (.i .i64 tie1) (by exact (r_cint' rfl (wrap_i64 (by omega) (by omega)))) ?_
  refine O_p (.p (some (n1, 7))) (r_fadd' rfl rfl) ?_
  refine O_p (.i .u16 out) (r_ld rfl hb10 rfl) ?_
  refine O_p (.i .i64 out) (by exact (r_cint' rfl (wrap_i64 (by omega) (by omega)))) ?_
  refine O_p (.p (some (n1, 8))) (r_fadd' rfl rfl) ?_
  refine O_p (.i .u16 inn) (r_ld rfl hb10 rfl) ?_
  refine O_p (.i .i64 inn) (by exact (r_cint' rfl (wrap_i64 (by omega) (by omega)))) ?_
  refine O_p (.agg [(.i .i64 made), (.i .i64 life), (.i .i64 tag), (.i .i64 peer), (.i .i64 first), (.i .i64 pf), (.i .i64 room), (.i .i64 tie0), (.i .i64 tie1), (.i .i64 out), (.i .i64 inn)]) (r_build rfl) ?_
  refine O_store (vs := [(.i .i64 made), (.i .i64 life), (.i .i64 tag), (.i .i64 peer), (.i .i64 first), (.i .i64 pf), (.i .i64 room), (.i .i64 tie0), (.i .i64 tie1), (.i .i64 out), (.i .i64 inn)]) (c' := [(.i .i64 made), (.i .i64 life), (.i .i64 tag), (.i .i64 peer), (.i .i64 first), (.i .i64 pf), (.i .i64 room), (.i .i64 tie0), (.i .i64 tie1), (.i .i64 out), (.i .i64 inn)]) rfl (by rfl) hN8.2.2.1 rfl (List.cons_ne_nil _ _) (Nat.le_of_ble_eq_true rfl) rfl fun H12 hW13 => ?_
  have hb14 := (hW13.2.2 _ (by omega)).trans hb10
  have hO15 := hO11.wr hW13 (by omega) (by omega)
  have hx_hO15 := hO15.next
  have hnx_H12 : H12.next = H7.next := hW13.1
  have hlt_n1 : n1 < H12.next := by omega
  have hlt_n6 : n6 < H12.next := by omega
  refine O_nil ?_
  refine C_ret ?_
  exact ⟨.inr rfl, _, resL_one (r_cellA rfl hW13.2.1 rfl), rfl, hO15⟩
theorem widths_ev {tab : Nat → Option XFun} {sp : Nat → List AV → AH → Option (AV × AH)} (h24 : tab 24 = some x24) {H : AH} (hok : H.Ok) : Ev tab sp (.fn (.func 24) [] []) [] H (fun r H' => ∃ q, r = .sl (some (q, 0)) 11 11 0 ∧ H'.get q = some (.cells [.i .i64 8, .i .i64 8, .i .i64 4, .i .i64 4, .i .i64 4, .i .i64 4, .i .i64 4, .i .i64 4, .i .i64 4, .i .i64 2, .i .i64 2] true) ∧ H.next ≤ q ∧ Kp H H') := by
  refine Ev_C (F := x24) h24 ?_
  have hO0 := Old.refl hok
  refine C_seq ?_
  refine C_region ?_
  refine O_p (.sl none 0 0 0) (r_mv rfl) ?_
  refine O_nil ?_
  refine C_seq ?_
  refine C_region ?_
  refine O_bslice (c := [(.i .i64 8), (.i .i64 8), (.i .i64 4), (.i .i64 4), (.i .i64 4), (.i .i64 4), (.i .i64 4), (.i .i64 4), (.i .i64 4), (.i .i64 2), (.i .i64 2)]) rfl fun n1 H2 hN3 => ?_
  have hF4 := hN3.fr (fun _ => False)
  have hO5 := hO0.new hN3
  have hx_hO5 := hO5.next
  have hnm_n1 : n1 = H.next := hN3.1
  have hnx_H2 : H2.next = H.next + 1 := hN3.2.1
  have hlt_n1 : n1 < H2.next := by omega
  refine O_p (.sl (some (n1, 0)) 11 11 0) (r_mv rfl) ?_
  refine O_nil ?_
  refine C_ret ?_
  exact ⟨.inr rfl, _, resL_one (r_tmp (v := (.sl (some (n1, 0)) 11 11 0)) rfl), n1, rfl, hN3.2.2.1, by omega, hO5⟩
set_option maxRecDepth 100000 in
set_option maxHeartbeats 4000000 in
theorem renc_t {H : AH} (hok : H.Ok) {ka : Option (Nat × Nat)} {kn kc kg : Nat} (khg : kg = 0 ∨ kg = 1) {key : List UInt8} (khb : Bs H (.sl ka kn kc kg) key) (khc : kn ≤ kc) (khm : kc ≤ 9223372036854775807) (made life tag peer first pf room out inn tie0 tie1 : Int) (ht : 0 ≤ tag ∧ tag < 4294967296) (hp : 0 ≤ peer ∧ peer < 4294967296) (hf : 0 ≤ first ∧ first < 4294967296) (hpf : 0 ≤ pf ∧ pf < 4294967296) (hr : 0 ≤ room ∧ room < 4294967296) (ho : 0 ≤ out ∧ out < 65536) (hi : 0 ≤ inn ∧ inn < 65536) (h0 : 0 ≤ tie0 ∧ tie0 < 4294967296) (h1 : 0 ≤ tie1 ∧ tie1 < 4294967296) (hk16 : key.length = 16) (hS : okS made life = true) : Ev tabA spA (.fn (.func 11) [] []) [.sl ka kn kc kg, .agg [(.i .i64 made), (.i .i64 life), (.i .i64 tag), (.i .i64 peer), (.i .i64 first), (.i .i64 pf), (.i .i64 room), (.i .i64 tie0), (.i .i64 tie1), (.i .i64 out), (.i .i64 inn)]] H (fun r H' => ∃ v, r = .tup [v, .b true] ∧ Mine H.next 1 H' v (bcells (sealed key (b32 (wordsL made life tag peer first pf room out inn tie0 tie1)))) ∧ Kp H H') := by
  have khl := khb.length
  subst khl
  refine Ev_C (F := x11) rfl ?_
  have hO0 := Old.refl hok
  have hS4 : ((0 ≤ made ∧ made ≤ 281474976710656) ∧ 0 ≤ life) ∧ life ≤ 281474976710656 := by unfold okS at hS; simpa only [Bool.and_eq_true, decide_eq_true_eq] using hS
  have h24 : tabA 24 = some x24 := rfl
  refine C_seq ?_
  refine C_region ?_
  refine O_box (z := [(.i .i64 made), (.i .i64 life), (.i .i64 tag), (.i .i64 peer), (.i .i64 first), (.i .i64 pf), (.i .i64 room), (.i .i64 tie0), (.i .i64 tie1), (.i .i64 out), (.i .i64 inn)]) rfl fun n1 H2 hN3 => ?_
  have hF4 := hN3.fr (fun _ => False)
  have hO5 := hO0.new hN3
  have hx_hO5 := hO5.next
  have hnm_n1 : n1 = H.next := hN3.1
  have hnx_H2 : H2.next = H.next + 1 := hN3.2.1
  have hlt_n1 : n1 < H2.next := by omega
  refine O_p (.sl none 0 0 0) (r_mv rfl) ?_
  refine O_p (.b false) (r_mv rfl) ?_
  refine O_nil ?_
  refine C_seq ?_
  refine C_seq ?_
  refine C_region ?_
  refine O_p (.sl ka key.length kc kg) (r_mv rfl) ?_
  refine O_p (.i .i64 (((key.length : Nat)) : Int)) (r_len rfl) ?_
  refine O_p (.b false) (by exact (by rw [r_neq rfl rfl, decide_eq_true (by omega)]; rfl)) ?_
  refine O_p (.b false) (r_mv rfl) ?_
  refine O_gs (v := (.p (some (n1, 0)))) rfl (r_iarr' rfl rfl rfl rfl) ?_
  refine O_gs (v := (.i .i64 made)) rfl (r_ld rfl hN3.2.2.1 rfl) ?_
  refine O_gs (v := (.b false)) rfl (by exact (by rw [r_lss rfl rfl, decide_eq_false (by omega)])) ?_
  refine O_p (.b false) (r_pick_f rfl rfl) ?_
  refine O_p (.b false) (r_mv rfl) ?_
  refine O_gs (v := (.p (some (n1, 0)))) rfl (r_iarr' rfl rfl rfl rfl) ?_
  refine O_gs (v := (.i .i64 made)) rfl (r_ld rfl hN3.2.2.1 rfl) ?_
  refine O_gs (v := (.b false)) rfl (by exact (by rw [r_gtr rfl rfl, decide_eq_false (by omega)])) ?_
  refine O_p (.b false) (r_pick_f rfl rfl) ?_
  refine O_p (.b false) (r_mv rfl) ?_
  refine O_gs (v := (.p (some (n1, 1)))) rfl (r_iarr' rfl rfl rfl rfl) ?_
  refine O_gs (v := (.i .i64 life)) rfl (r_ld rfl hN3.2.2.1 rfl) ?_
  refine O_gs (v := (.b false)) rfl (by exact (by rw [r_lss rfl rfl, decide_eq_false (by omega)])) ?_
  refine O_p (.b false) (r_pick_f rfl rfl) ?_
  refine O_p (.b false) (r_mv rfl) ?_
  refine O_gs (v := (.p (some (n1, 1)))) rfl (r_iarr' rfl rfl rfl rfl) ?_
  refine O_gs (v := (.i .i64 life)) rfl (r_ld rfl hN3.2.2.1 rfl) ?_
  refine O_gs (v := (.b false)) rfl (by exact (by rw [r_gtr rfl rfl, decide_eq_false (by omega)])) ?_
  refine O_p (.b false) (r_pick_f rfl rfl) ?_
  refine O_nil ?_
  refine C_cond (x := false) rfl (fun h => by cases h) (fun _ => ?_)
  refine C_skip ?_
  refine C_seq ?_
  refine C_region ?_
  refine O_p (.sl none 0 0 0) (r_mv rfl) ?_
  refine O_nil ?_
  refine C_seq ?_
  refine C_region ?_
  refine O_call (Ev.mono (widths_ev h24 hO5.ok) fun v6 H7 hq8 => ?_)
  obtain ⟨q24, rfl, hq24, hq24n, hK24⟩ := hq8
  have hb9 := (hK24.keep _ (by omega)).trans hN3.2.2.1
  have hx_hK24 := hK24.next
  have hlt_n1 : n1 < H7.next := by omega
  have hO10 := hO5.trans hK24
  have hx_hO10 := hO10.next
  have hlt_q24 : q24 < H7.next := hK24.ok _ _ hq24
  refine O_p (.sl (some (q24, 0)) 11 11 0) (r_mv rfl) ?_
  refine O_nil ?_
  refine C_seq ?_
  refine C_seq ?_
  refine C_region ?_
  refine O_p (.i .i64 0) (r_mv rfl) ?_
  refine O_nil ?_
  refine C_block ?_
  refine C_loop ?_
  refine C_seq ?_
  refine C_seq ?_
  refine C_region ?_
  refine O_p (.i .i64 0) (r_mv rfl) ?_
  refine O_p (.sl (some (q24, 0)) 11 11 0) (r_mv rfl) ?_
  refine O_p (.i .i64 11) (r_len rfl) ?_
  refine O_p (.b true) (r_bin rfl rfl rfl) ?_
  refine O_nil ?_
  refine C_cond (x := true) rfl (fun _ => ?_) (fun h => by cases h)
  refine C_skip ?_
  refine C_seq ?_
  refine C_block ?_
  refine C_draw fun b11 H12 hbase13 hA14 => ?_
  have hnx15 : H12.next = H7.next + 10 := hA14.1
  have hb16 := (hA14.2 _).trans hb9
  have hb17 := (hA14.2 _).trans hq24
  have hF18 := hA14.fr (fun _ => False)
  have hO19 := hO10.aside hA14
  have hx_hO19 := hO19.next
  have hlt_n1 : n1 < H12.next := by omega
  have hlt_q24 : q24 < H12.next := by omega
  refine D_l (v := (.sl none 0 0 0)) rfl rfl rfl (r_mv rfl) ?_
  refine D_l (v := (.i .i64 0)) rfl rfl rfl (r_mv rfl) ?_
  refine D_l (v := (.p (some (n1, 0)))) rfl rfl rfl (r_iarr' rfl rfl rfl rfl) ?_
  refine D_l (v := (.sl (some (q24, 0)) 11 11 0)) rfl rfl rfl (r_mv rfl) ?_
  refine D_l (v := (.i .i64 0)) rfl rfl rfl (r_mv rfl) ?_
  refine D_l (v := (.p (some (q24, 0)))) rfl rfl rfl (by exact (r_isl' rfl rfl (by decide) (by decide) rfl)) ?_
  refine D_r (v := (.i .i64 made)) rfl rfl rfl (r_ld rfl hb16 rfl) ?_
  refine D_r (v := (.i .i64 8)) rfl rfl rfl (r_ld rfl hb17 rfl) ?_
  refine D_call (Ev.mono (rput8_ev hO19.ok (.inl rfl) Bs.nil (by first | omega | (simp only [List.length_take, List.length_drop, List.length_append, List.length_cons, List.length_nil, beN_len] <;> omega)) (by first | omega | (simp only [List.length_take, List.length_drop, List.length_append, List.length_cons, List.length_nil, beN_len] <;> omega)) made (by first | omega | (simp only [List.length_append, List.length_cons, List.length_nil, beN_len] <;> omega))) fun v20 H21 hq22 => ?_)
  obtain ⟨hM23, hK24⟩ := hq22
  have hb25 := (hK24.keep _ (by omega)).trans hb16
  have hb26 := (hK24.keep _ (by omega)).trans hb17
  have hx_hK24 := hK24.next
  have hlt_n1 : n1 < H21.next := by omega
  have hlt_q24 : q24 < H21.next := by omega
  have hO27 := hO19.trans hK24
  have hx_hO27 := hO27.next
  have hM28 := hM23.down (N := H.next) (by omega)
  have hd29 : ¬ v20.nameOf n1 := fun hq => by have := hM23.new _ hq; omega
  have hd30 : ¬ v20.nameOf q24 := fun hq => by have := hM23.new _ hq; omega
  refine And.intro (And.intro (Or.inl rfl) (And.intro (Or.inl rfl) True.intro)) ?_
  refine D_l (v := v20) rfl rfl rfl (r_mv rfl) ?_
  refine D_nil ?_
  refine C_region ?_
  refine O_p (.i .i64 0) (r_mv rfl) ?_
  refine O_p (.i .i64 1) (r_bin rfl rfl rfl) ?_
  refine O_p (.i .i64 1) (r_mv rfl) ?_
  refine O_nil ?_
  refine C_loop ?_
  refine C_seq ?_
  refine C_seq ?_
  refine C_region ?_
  refine O_p (.i .i64 1) (r_mv rfl) ?_
  refine O_p (.sl (some (q24, 0)) 11 11 0) (r_mv rfl) ?_
  refine O_p (.i .i64 11) (r_len rfl) ?_
  refine O_p (.b true) (r_bin rfl rfl rfl) ?_
  refine O_nil ?_
  refine C_cond (x := true) rfl (fun _ => ?_) (fun h => by cases h)
  refine C_skip ?_
  refine C_seq ?_
  refine C_block ?_
  refine C_draw fun b31 H32 hbase33 hA34 => ?_
  have hnx35 : H32.next = H21.next + 10 := hA34.1
  have hb36 := (hA34.2 _).trans hb25
  have hb37 := (hA34.2 _).trans hb26
  have hF38 := hA34.fr (fun _ => False)
  have hM39 := hM28.aside hA34
  have hO40 := hO27.aside hA34
  have hx_hO40 := hO40.next
  have hlt_n1 : n1 < H32.next := by omega
  have hlt_q24 : q24 < H32.next := by omega
  refine D_l (v := v20) rfl rfl rfl (r_mv rfl) ?_
  refine D_l (v := (.i .i64 1)) rfl rfl rfl (r_mv rfl) ?_
  refine D_l (v := (.p (some (n1, 1)))) rfl rfl rfl (r_iarr' rfl rfl rfl rfl) ?_
  refine D_l (v := (.sl (some (q24, 0)) 11 11 0)) rfl rfl rfl (r_mv rfl) ?_
  refine D_l (v := (.i .i64 1)) rfl rfl rfl (r_mv rfl) ?_
  refine D_l (v := (.p (some (q24, 1)))) rfl rfl rfl (by exact (r_isl' rfl rfl (by decide) (by decide) rfl)) ?_
  refine D_r (v := (.i .i64 life)) rfl rfl rfl (r_ld rfl hb36 rfl) ?_
  refine D_r (v := (.i .i64 8)) rfl rfl rfl (r_ld rfl hb37 rfl) ?_
  have hsf45 : Own 1 H32 v20 (bcells (([] ++ beN (w32 (Int.fdiv made (2 ^ 32))) 4) ++ beN (w32 made) 4)) := hM39.own
  obtain ⟨oa41, og42, rfl, hog43, hob44⟩ := hsf45.bs
  have base46 := Old.refl hO40.ok
  refine D_call (Ev.mono (rput8_ev hO40.ok hog43 (hM39.own.asbs) (by first | omega | (simp only [List.length_take, List.length_drop, List.length_append, List.length_cons, List.length_nil, beN_len] <;> omega)) (by first | omega | (simp only [List.length_take, List.length_drop, List.length_append, List.length_cons, List.length_nil, beN_len] <;> omega)) life (by first | omega | (simp only [List.length_append, List.length_cons, List.length_nil, beN_len] <;> omega))) fun v47 H48 hq49 => ?_)
  obtain ⟨hM50, hK51⟩ := hq49
  have hb52 := (hK51.keep _ (by omega)).trans hb36
  have hb53 := (hK51.keep _ (by omega)).trans hb37
  have hx_hK51 := hK51.next
  have hlt_n1 : n1 < H48.next := by omega
  have hlt_q24 : q24 < H48.next := by omega
  have hM54 := hM39.kp hK51
  have hO55 := hO40.trans hK51
  have hx_hO55 := hO55.next
  have hO56 := base46.trans hK51
  have hM57 := hM50.down (N := H.next) (by omega)
  have hd58 : ¬ v47.nameOf n1 := fun hq => by have := hM50.new _ hq; omega
  have hd59 : ¬ v47.nameOf q24 := fun hq => by have := hM50.new _ hq; omega
  refine And.intro (And.intro (Or.inl rfl) (And.intro (Or.inl rfl) True.intro)) ?_
  refine D_l (v := v47) rfl rfl rfl (r_mv rfl) ?_
  refine D_nil ?_
  refine C_region ?_
  refine O_p (.i .i64 1) (r_mv rfl) ?_
  refine O_p (.i .i64 2) (r_bin rfl rfl rfl) ?_
  refine O_p (.i .i64 2) (r_mv rfl) ?_
  refine O_nil ?_
  refine C_loop ?_
  refine C_seq ?_
  refine C_seq ?_
  refine C_region ?_
  refine O_p (.i .i64 2) (r_mv rfl) ?_
  refine O_p (.sl (some (q24, 0)) 11 11 0) (r_mv rfl) ?_
  refine O_p (.i .i64 11) (r_len rfl) ?_
  refine O_p (.b true) (r_bin rfl rfl rfl) ?_
  refine O_nil ?_
  refine C_cond (x := true) rfl (fun _ => ?_) (fun h => by cases h)
  refine C_skip ?_
  refine C_seq ?_
  refine C_block ?_
  refine C_draw fun b60 H61 hbase62 hA63 => ?_
  have hnx64 : H61.next = H48.next + 10 := hA63.1
  have hb65 := (hA63.2 _).trans hb52
  have hb66 := (hA63.2 _).trans hb53
  have hF67 := hA63.fr (fun _ => False)
  have hM68 := hM54.aside hA63
  have hM69 := hM57.aside hA63
  have hO70 := hO55.aside hA63
  have hx_hO70 := hO70.next
  have hO71 := hO56.aside hA63
  have hlt_n1 : n1 < H61.next := by omega
  have hlt_q24 : q24 < H61.next := by omega
  refine D_l (v := v47) rfl rfl rfl (r_mv rfl) ?_
  refine D_l (v := (.i .i64 2)) rfl rfl rfl (r_mv rfl) ?_
  refine D_l (v := (.p (some (n1, 2)))) rfl rfl rfl (r_iarr' rfl rfl rfl rfl) ?_
  refine D_l (v := (.sl (some (q24, 0)) 11 11 0)) rfl rfl rfl (r_mv rfl) ?_
  refine D_l (v := (.i .i64 2)) rfl rfl rfl (r_mv rfl) ?_
  refine D_l (v := (.p (some (q24, 2)))) rfl rfl rfl (by exact (r_isl' rfl rfl (by decide) (by decide) rfl)) ?_
  refine D_r (v := (.i .i64 tag)) rfl rfl rfl (r_ld rfl hb65 rfl) ?_
  refine D_r (v := (.i .i64 4)) rfl rfl rfl (r_ld rfl hb66 rfl) ?_
  have hsf76 : Own 1 H61 v47 (bcells (((([] ++ beN (w32 (Int.fdiv made (2 ^ 32))) 4) ++ beN (w32 made) 4) ++ beN (w32 (Int.fdiv life (2 ^ 32))) 4) ++ beN (w32 life) 4)) := hM69.own
  obtain ⟨oa72, og73, rfl, hog74, hob75⟩ := hsf76.bs
  have base77 := Old.refl hO70.ok
  refine D_call (Ev.mono (rputn_ev hO70.ok hog74 (hM69.own.asbs) (by first | omega | (simp only [List.length_take, List.length_drop, List.length_append, List.length_cons, List.length_nil, beN_len] <;> omega)) (by first | omega | (simp only [List.length_take, List.length_drop, List.length_append, List.length_cons, List.length_nil, beN_len] <;> omega)) tag (n := 4) (by decide) (by first | omega | (simp only [List.length_append, List.length_cons, List.length_nil, beN_len] <;> omega))) fun v78 H79 hq80 => ?_)
  obtain ⟨hM81, hK82⟩ := hq80
  have hb83 := (hK82.keep _ (by omega)).trans hb65
  have hb84 := (hK82.keep _ (by omega)).trans hb66
  have hx_hK82 := hK82.next
  have hlt_n1 : n1 < H79.next := by omega
  have hlt_q24 : q24 < H79.next := by omega
  have hM85 := hM68.kp hK82
  have hM86 := hM69.kp hK82
  have hO87 := hO70.trans hK82
  have hx_hO87 := hO87.next
  have hO88 := hO71.trans hK82
  have hO89 := base77.trans hK82
  have hM90 := hM81.down (N := H.next) (by omega)
  have hd91 : ¬ v78.nameOf n1 := fun hq => by have := hM81.new _ hq; omega
  have hd92 : ¬ v78.nameOf q24 := fun hq => by have := hM81.new _ hq; omega
  refine And.intro (And.intro (Or.inl rfl) (And.intro (Or.inl rfl) True.intro)) ?_
  refine D_l (v := v78) rfl rfl rfl (r_mv rfl) ?_
  refine D_nil ?_
  refine C_region ?_
  refine O_p (.i .i64 2) (r_mv rfl) ?_
  refine O_p (.i .i64 3) (r_bin rfl rfl rfl) ?_
  refine O_p (.i .i64 3) (r_mv rfl) ?_
  refine O_nil ?_
  refine C_loop ?_
  refine C_seq ?_
  refine C_seq ?_
  refine C_region ?_
  refine O_p (.i .i64 3) (r_mv rfl) ?_
  refine O_p (.sl (some (q24, 0)) 11 11 0) (r_mv rfl) ?_
  refine O_p (.i .i64 11) (r_len rfl) ?_
  refine O_p (.b true) (r_bin rfl rfl rfl) ?_
  refine O_nil ?_
  refine C_cond (x := true) rfl (fun _ => ?_) (fun h => by cases h)
  refine C_skip ?_
  refine C_seq ?_
  refine C_block ?_
  refine C_draw fun b93 H94 hbase95 hA96 => ?_
  have hnx97 : H94.next = H79.next + 10 := hA96.1
  have hb98 := (hA96.2 _).trans hb83
  have hb99 := (hA96.2 _).trans hb84
  have hF100 := hA96.fr (fun _ => False)
  have hM101 := hM85.aside hA96
  have hM102 := hM86.aside hA96
  have hM103 := hM90.aside hA96
  have hO104 := hO87.aside hA96
  have hx_hO104 := hO104.next
  have hO105 := hO88.aside hA96
  have hO106 := hO89.aside hA96
  have hlt_n1 : n1 < H94.next := by omega
  have hlt_q24 : q24 < H94.next := by omega
  refine D_l (v := v78) rfl rfl rfl (r_mv rfl) ?_
  refine D_l (v := (.i .i64 3)) rfl rfl rfl (r_mv rfl) ?_
  refine D_l (v := (.p (some (n1, 3)))) rfl rfl rfl (r_iarr' rfl rfl rfl rfl) ?_
  refine D_l (v := (.sl (some (q24, 0)) 11 11 0)) rfl rfl rfl (r_mv rfl) ?_
  refine D_l (v := (.i .i64 3)) rfl rfl rfl (r_mv rfl) ?_
  refine D_l (v := (.p (some (q24, 3)))) rfl rfl rfl (by exact (r_isl' rfl rfl (by decide) (by decide) rfl)) ?_
  refine D_r (v := (.i .i64 peer)) rfl rfl rfl (r_ld rfl hb98 rfl) ?_
  refine D_r (v := (.i .i64 4)) rfl rfl rfl (r_ld rfl hb99 rfl) ?_
  have hsf111 : Own 1 H94 v78 (bcells ((((([] ++ beN (w32 (Int.fdiv made (2 ^ 32))) 4) ++ beN (w32 made) 4) ++ beN (w32 (Int.fdiv life (2 ^ 32))) 4) ++ beN (w32 life) 4) ++ beN (w32 tag) 4)) := hM103.own
  obtain ⟨oa107, og108, rfl, hog109, hob110⟩ := hsf111.bs
  have base112 := Old.refl hO104.ok
  refine D_call (Ev.mono (rputn_ev hO104.ok hog109 (hM103.own.asbs) (by first | omega | (simp only [List.length_take, List.length_drop, List.length_append, List.length_cons, List.length_nil, beN_len] <;> omega)) (by first | omega | (simp only [List.length_take, List.length_drop, List.length_append, List.length_cons, List.length_nil, beN_len] <;> omega)) peer (n := 4) (by decide) (by first | omega | (simp only [List.length_append, List.length_cons, List.length_nil, beN_len] <;> omega))) fun v113 H114 hq115 => ?_)
  obtain ⟨hM116, hK117⟩ := hq115
  have hb118 := (hK117.keep _ (by omega)).trans hb98
  have hb119 := (hK117.keep _ (by omega)).trans hb99
  have hx_hK117 := hK117.next
  have hlt_n1 : n1 < H114.next := by omega
  have hlt_q24 : q24 < H114.next := by omega
  have hM120 := hM101.kp hK117
  have hM121 := hM102.kp hK117
  have hM122 := hM103.kp hK117
  have hO123 := hO104.trans hK117
  have hx_hO123 := hO123.next
  have hO124 := hO105.trans hK117
  have hO125 := hO106.trans hK117
  have hO126 := base112.trans hK117
  have hM127 := hM116.down (N := H.next) (by omega)
  have hd128 : ¬ v113.nameOf n1 := fun hq => by have := hM116.new _ hq; omega
  have hd129 : ¬ v113.nameOf q24 := fun hq => by have := hM116.new _ hq; omega
  refine And.intro (And.intro (Or.inl rfl) (And.intro (Or.inl rfl) True.intro)) ?_
  refine D_l (v := v113) rfl rfl rfl (r_mv rfl) ?_
  refine D_nil ?_
  refine C_region ?_
  refine O_p (.i .i64 3) (r_mv rfl) ?_
  refine O_p (.i .i64 4) (r_bin rfl rfl rfl) ?_
  refine O_p (.i .i64 4) (r_mv rfl) ?_
  refine O_nil ?_
  refine C_loop ?_
  refine C_seq ?_
  refine C_seq ?_
  refine C_region ?_
  refine O_p (.i .i64 4) (r_mv rfl) ?_
  refine O_p (.sl (some (q24, 0)) 11 11 0) (r_mv rfl) ?_
  refine O_p (.i .i64 11) (r_len rfl) ?_
  refine O_p (.b true) (r_bin rfl rfl rfl) ?_
  refine O_nil ?_
  refine C_cond (x := true) rfl (fun _ => ?_) (fun h => by cases h)
  refine C_skip ?_
  refine C_seq ?_
  refine C_block ?_
  refine C_draw fun b130 H131 hbase132 hA133 => ?_
  have hnx134 : H131.next = H114.next + 10 := hA133.1
  have hb135 := (hA133.2 _).trans hb118
  have hb136 := (hA133.2 _).trans hb119
  have hF137 := hA133.fr (fun _ => False)
  have hM138 := hM120.aside hA133
  have hM139 := hM121.aside hA133
  have hM140 := hM122.aside hA133
  have hM141 := hM127.aside hA133
  have hO142 := hO123.aside hA133
  have hx_hO142 := hO142.next
  have hO143 := hO124.aside hA133
  have hO144 := hO125.aside hA133
  have hO145 := hO126.aside hA133
  have hlt_n1 : n1 < H131.next := by omega
  have hlt_q24 : q24 < H131.next := by omega
  refine D_l (v := v113) rfl rfl rfl (r_mv rfl) ?_
  refine D_l (v := (.i .i64 4)) rfl rfl rfl (r_mv rfl) ?_
  refine D_l (v := (.p (some (n1, 4)))) rfl rfl rfl (r_iarr' rfl rfl rfl rfl) ?_
  refine D_l (v := (.sl (some (q24, 0)) 11 11 0)) rfl rfl rfl (r_mv rfl) ?_
  refine D_l (v := (.i .i64 4)) rfl rfl rfl (r_mv rfl) ?_
  refine D_l (v := (.p (some (q24, 4)))) rfl rfl rfl (by exact (r_isl' rfl rfl (by decide) (by decide) rfl)) ?_
  refine D_r (v := (.i .i64 first)) rfl rfl rfl (r_ld rfl hb135 rfl) ?_
  refine D_r (v := (.i .i64 4)) rfl rfl rfl (r_ld rfl hb136 rfl) ?_
  have hsf150 : Own 1 H131 v113 (bcells (((((([] ++ beN (w32 (Int.fdiv made (2 ^ 32))) 4) ++ beN (w32 made) 4) ++ beN (w32 (Int.fdiv life (2 ^ 32))) 4) ++ beN (w32 life) 4) ++ beN (w32 tag) 4) ++ beN (w32 peer) 4)) := hM141.own
  obtain ⟨oa146, og147, rfl, hog148, hob149⟩ := hsf150.bs
  have base151 := Old.refl hO142.ok
  refine D_call (Ev.mono (rputn_ev hO142.ok hog148 (hM141.own.asbs) (by first | omega | (simp only [List.length_take, List.length_drop, List.length_append, List.length_cons, List.length_nil, beN_len] <;> omega)) (by first | omega | (simp only [List.length_take, List.length_drop, List.length_append, List.length_cons, List.length_nil, beN_len] <;> omega)) first (n := 4) (by decide) (by first | omega | (simp only [List.length_append, List.length_cons, List.length_nil, beN_len] <;> omega))) fun v152 H153 hq154 => ?_)
  obtain ⟨hM155, hK156⟩ := hq154
  have hb157 := (hK156.keep _ (by omega)).trans hb135
  have hb158 := (hK156.keep _ (by omega)).trans hb136
  have hx_hK156 := hK156.next
  have hlt_n1 : n1 < H153.next := by omega
  have hlt_q24 : q24 < H153.next := by omega
  have hM159 := hM138.kp hK156
  have hM160 := hM139.kp hK156
  have hM161 := hM140.kp hK156
  have hM162 := hM141.kp hK156
  have hO163 := hO142.trans hK156
  have hx_hO163 := hO163.next
  have hO164 := hO143.trans hK156
  have hO165 := hO144.trans hK156
  have hO166 := hO145.trans hK156
  have hO167 := base151.trans hK156
  have hM168 := hM155.down (N := H.next) (by omega)
  have hd169 : ¬ v152.nameOf n1 := fun hq => by have := hM155.new _ hq; omega
  have hd170 : ¬ v152.nameOf q24 := fun hq => by have := hM155.new _ hq; omega
  refine And.intro (And.intro (Or.inl rfl) (And.intro (Or.inl rfl) True.intro)) ?_
  refine D_l (v := v152) rfl rfl rfl (r_mv rfl) ?_
  refine D_nil ?_
  refine C_region ?_
  refine O_p (.i .i64 4) (r_mv rfl) ?_
  refine O_p (.i .i64 5) (r_bin rfl rfl rfl) ?_
  refine O_p (.i .i64 5) (r_mv rfl) ?_
  refine O_nil ?_
  refine C_loop ?_
  refine C_seq ?_
  refine C_seq ?_
  refine C_region ?_
  refine O_p (.i .i64 5) (r_mv rfl) ?_
  refine O_p (.sl (some (q24, 0)) 11 11 0) (r_mv rfl) ?_
  refine O_p (.i .i64 11) (r_len rfl) ?_
  refine O_p (.b true) (r_bin rfl rfl rfl) ?_
  refine O_nil ?_
  refine C_cond (x := true) rfl (fun _ => ?_) (fun h => by cases h)
  refine C_skip ?_
  refine C_seq ?_
  refine C_block ?_
  refine C_draw fun b171 H172 hbase173 hA174 => ?_
  have hnx175 : H172.next = H153.next + 10 := hA174.1
  have hb176 := (hA174.2 _).trans hb157
  have hb177 := (hA174.2 _).trans hb158
  have hF178 := hA174.fr (fun _ => False)
  have hM179 := hM159.aside hA174
  have hM180 := hM160.aside hA174
  have hM181 := hM161.aside hA174
  have hM182 := hM162.aside hA174
  have hM183 := hM168.aside hA174
  have hO184 := hO163.aside hA174
  have hx_hO184 := hO184.next
  have hO185 := hO164.aside hA174
  have hO186 := hO165.aside hA174
  have hO187 := hO166.aside hA174
  have hO188 := hO167.aside hA174
  have hlt_n1 : n1 < H172.next := by omega
  have hlt_q24 : q24 < H172.next := by omega
  refine D_l (v := v152) rfl rfl rfl (r_mv rfl) ?_
  refine D_l (v := (.i .i64 5)) rfl rfl rfl (r_mv rfl) ?_
  refine D_l (v := (.p (some (n1, 5)))) rfl rfl rfl (r_iarr' rfl rfl rfl rfl) ?_
  refine D_l (v := (.sl (some (q24, 0)) 11 11 0)) rfl rfl rfl (r_mv rfl) ?_
  refine D_l (v := (.i .i64 5)) rfl rfl rfl (r_mv rfl) ?_
  refine D_l (v := (.p (some (q24, 5)))) rfl rfl rfl (by exact (r_isl' rfl rfl (by decide) (by decide) rfl)) ?_
  refine D_r (v := (.i .i64 pf)) rfl rfl rfl (r_ld rfl hb176 rfl) ?_
  refine D_r (v := (.i .i64 4)) rfl rfl rfl (r_ld rfl hb177 rfl) ?_
  have hsf193 : Own 1 H172 v152 (bcells ((((((([] ++ beN (w32 (Int.fdiv made (2 ^ 32))) 4) ++ beN (w32 made) 4) ++ beN (w32 (Int.fdiv life (2 ^ 32))) 4) ++ beN (w32 life) 4) ++ beN (w32 tag) 4) ++ beN (w32 peer) 4) ++ beN (w32 first) 4)) := hM183.own
  obtain ⟨oa189, og190, rfl, hog191, hob192⟩ := hsf193.bs
  have base194 := Old.refl hO184.ok
  refine D_call (Ev.mono (rputn_ev hO184.ok hog191 (hM183.own.asbs) (by first | omega | (simp only [List.length_take, List.length_drop, List.length_append, List.length_cons, List.length_nil, beN_len] <;> omega)) (by first | omega | (simp only [List.length_take, List.length_drop, List.length_append, List.length_cons, List.length_nil, beN_len] <;> omega)) pf (n := 4) (by decide) (by first | omega | (simp only [List.length_append, List.length_cons, List.length_nil, beN_len] <;> omega))) fun v195 H196 hq197 => ?_)
  obtain ⟨hM198, hK199⟩ := hq197
  have hb200 := (hK199.keep _ (by omega)).trans hb176
  have hb201 := (hK199.keep _ (by omega)).trans hb177
  have hx_hK199 := hK199.next
  have hlt_n1 : n1 < H196.next := by omega
  have hlt_q24 : q24 < H196.next := by omega
  have hM202 := hM179.kp hK199
  have hM203 := hM180.kp hK199
  have hM204 := hM181.kp hK199
  have hM205 := hM182.kp hK199
  have hM206 := hM183.kp hK199
  have hO207 := hO184.trans hK199
  have hx_hO207 := hO207.next
  have hO208 := hO185.trans hK199
  have hO209 := hO186.trans hK199
  have hO210 := hO187.trans hK199
  have hO211 := hO188.trans hK199
  have hO212 := base194.trans hK199
  have hM213 := hM198.down (N := H.next) (by omega)
  have hd214 : ¬ v195.nameOf n1 := fun hq => by have := hM198.new _ hq; omega
  have hd215 : ¬ v195.nameOf q24 := fun hq => by have := hM198.new _ hq; omega
  refine And.intro (And.intro (Or.inl rfl) (And.intro (Or.inl rfl) True.intro)) ?_
  refine D_l (v := v195) rfl rfl rfl (r_mv rfl) ?_
  refine D_nil ?_
  refine C_region ?_
  refine O_p (.i .i64 5) (r_mv rfl) ?_
  refine O_p (.i .i64 6) (r_bin rfl rfl rfl) ?_
  refine O_p (.i .i64 6) (r_mv rfl) ?_
  refine O_nil ?_
  refine C_loop ?_
  refine C_seq ?_
  refine C_seq ?_
  refine C_region ?_
  refine O_p (.i .i64 6) (r_mv rfl) ?_
  refine O_p (.sl (some (q24, 0)) 11 11 0) (r_mv rfl) ?_
  refine O_p (.i .i64 11) (r_len rfl) ?_
  refine O_p (.b true) (r_bin rfl rfl rfl) ?_
  refine O_nil ?_
  refine C_cond (x := true) rfl (fun _ => ?_) (fun h => by cases h)
  refine C_skip ?_
  refine C_seq ?_
  refine C_block ?_
  refine C_draw fun b216 H217 hbase218 hA219 => ?_
  have hnx220 : H217.next = H196.next + 10 := hA219.1
  have hb221 := (hA219.2 _).trans hb200
  have hb222 := (hA219.2 _).trans hb201
  have hF223 := hA219.fr (fun _ => False)
  have hM224 := hM202.aside hA219
  have hM225 := hM203.aside hA219
  have hM226 := hM204.aside hA219
  have hM227 := hM205.aside hA219
  have hM228 := hM206.aside hA219
  have hM229 := hM213.aside hA219
  have hO230 := hO207.aside hA219
  have hx_hO230 := hO230.next
  have hO231 := hO208.aside hA219
  have hO232 := hO209.aside hA219
  have hO233 := hO210.aside hA219
  have hO234 := hO211.aside hA219
  have hO235 := hO212.aside hA219
  have hlt_n1 : n1 < H217.next := by omega
  have hlt_q24 : q24 < H217.next := by omega
  refine D_l (v := v195) rfl rfl rfl (r_mv rfl) ?_
  refine D_l (v := (.i .i64 6)) rfl rfl rfl (r_mv rfl) ?_
  refine D_l (v := (.p (some (n1, 6)))) rfl rfl rfl (r_iarr' rfl rfl rfl rfl) ?_
  refine D_l (v := (.sl (some (q24, 0)) 11 11 0)) rfl rfl rfl (r_mv rfl) ?_
  refine D_l (v := (.i .i64 6)) rfl rfl rfl (r_mv rfl) ?_
  refine D_l (v := (.p (some (q24, 6)))) rfl rfl rfl (by exact (r_isl' rfl rfl (by decide) (by decide) rfl)) ?_
  refine D_r (v := (.i .i64 room)) rfl rfl rfl (r_ld rfl hb221 rfl) ?_
  refine D_r (v := (.i .i64 4)) rfl rfl rfl (r_ld rfl hb222 rfl) ?_
  have hsf240 : Own 1 H217 v195 (bcells (((((((([] ++ beN (w32 (Int.fdiv made (2 ^ 32))) 4) ++ beN (w32 made) 4) ++ beN (w32 (Int.fdiv life (2 ^ 32))) 4) ++ beN (w32 life) 4) ++ beN (w32 tag) 4) ++ beN (w32 peer) 4) ++ beN (w32 first) 4) ++ beN (w32 pf) 4)) := hM229.own
  obtain ⟨oa236, og237, rfl, hog238, hob239⟩ := hsf240.bs
  have base241 := Old.refl hO230.ok
  refine D_call (Ev.mono (rputn_ev hO230.ok hog238 (hM229.own.asbs) (by first | omega | (simp only [List.length_take, List.length_drop, List.length_append, List.length_cons, List.length_nil, beN_len] <;> omega)) (by first | omega | (simp only [List.length_take, List.length_drop, List.length_append, List.length_cons, List.length_nil, beN_len] <;> omega)) room (n := 4) (by decide) (by first | omega | (simp only [List.length_append, List.length_cons, List.length_nil, beN_len] <;> omega))) fun v242 H243 hq244 => ?_)
  obtain ⟨hM245, hK246⟩ := hq244
  have hb247 := (hK246.keep _ (by omega)).trans hb221
  have hb248 := (hK246.keep _ (by omega)).trans hb222
  have hx_hK246 := hK246.next
  have hlt_n1 : n1 < H243.next := by omega
  have hlt_q24 : q24 < H243.next := by omega
  have hM249 := hM224.kp hK246
  have hM250 := hM225.kp hK246
  have hM251 := hM226.kp hK246
  have hM252 := hM227.kp hK246
  have hM253 := hM228.kp hK246
  have hM254 := hM229.kp hK246
  have hO255 := hO230.trans hK246
  have hx_hO255 := hO255.next
  have hO256 := hO231.trans hK246
  have hO257 := hO232.trans hK246
  have hO258 := hO233.trans hK246
  have hO259 := hO234.trans hK246
  have hO260 := hO235.trans hK246
  have hO261 := base241.trans hK246
  have hM262 := hM245.down (N := H.next) (by omega)
  have hd263 : ¬ v242.nameOf n1 := fun hq => by have := hM245.new _ hq; omega
  have hd264 : ¬ v242.nameOf q24 := fun hq => by have := hM245.new _ hq; omega
  refine And.intro (And.intro (Or.inl rfl) (And.intro (Or.inl rfl) True.intro)) ?_
  refine D_l (v := v242) rfl rfl rfl (r_mv rfl) ?_
  refine D_nil ?_
  refine C_region ?_
  refine O_p (.i .i64 6) (r_mv rfl) ?_
  refine O_p (.i .i64 7) (r_bin rfl rfl rfl) ?_
  refine O_p (.i .i64 7) (r_mv rfl) ?_
  refine O_nil ?_
  refine C_loop ?_
  refine C_seq ?_
  refine C_seq ?_
  refine C_region ?_
  refine O_p (.i .i64 7) (r_mv rfl) ?_
  refine O_p (.sl (some (q24, 0)) 11 11 0) (r_mv rfl) ?_
  refine O_p (.i .i64 11) (r_len rfl) ?_
  refine O_p (.b true) (r_bin rfl rfl rfl) ?_
  refine O_nil ?_
  refine C_cond (x := true) rfl (fun _ => ?_) (fun h => by cases h)
  refine C_skip ?_
  refine C_seq ?_
  refine C_block ?_
  refine C_draw fun b265 H266 hbase267 hA268 => ?_
  have hnx269 : H266.next = H243.next + 10 := hA268.1
  have hb270 := (hA268.2 _).trans hb247
  have hb271 := (hA268.2 _).trans hb248
  have hF272 := hA268.fr (fun _ => False)
  have hM273 := hM249.aside hA268
  have hM274 := hM250.aside hA268
  have hM275 := hM251.aside hA268
  have hM276 := hM252.aside hA268
  have hM277 := hM253.aside hA268
  have hM278 := hM254.aside hA268
  have hM279 := hM262.aside hA268
  have hO280 := hO255.aside hA268
  have hx_hO280 := hO280.next
  have hO281 := hO256.aside hA268
  have hO282 := hO257.aside hA268
  have hO283 := hO258.aside hA268
  have hO284 := hO259.aside hA268
  have hO285 := hO260.aside hA268
  have hO286 := hO261.aside hA268
  have hlt_n1 : n1 < H266.next := by omega
  have hlt_q24 : q24 < H266.next := by omega
  refine D_l (v := v242) rfl rfl rfl (r_mv rfl) ?_
  refine D_l (v := (.i .i64 7)) rfl rfl rfl (r_mv rfl) ?_
  refine D_l (v := (.p (some (n1, 7)))) rfl rfl rfl (r_iarr' rfl rfl rfl rfl) ?_
  refine D_l (v := (.sl (some (q24, 0)) 11 11 0)) rfl rfl rfl (r_mv rfl) ?_
  refine D_l (v := (.i .i64 7)) rfl rfl rfl (r_mv rfl) ?_
  refine D_l (v := (.p (some (q24, 7)))) rfl rfl rfl (by exact (r_isl' rfl rfl (by decide) (by decide) rfl)) ?_
  refine D_r (v := (.i .i64 tie0)) rfl rfl rfl (r_ld rfl hb270 rfl) ?_
  refine D_r (v := (.i .i64 4)) rfl rfl rfl (r_ld rfl hb271 rfl) ?_
  have hsf291 : Own 1 H266 v242 (bcells ((((((((([] ++ beN (w32 (Int.fdiv made (2 ^ 32))) 4) ++ beN (w32 made) 4) ++ beN (w32 (Int.fdiv life (2 ^ 32))) 4) ++ beN (w32 life) 4) ++ beN (w32 tag) 4) ++ beN (w32 peer) 4) ++ beN (w32 first) 4) ++ beN (w32 pf) 4) ++ beN (w32 room) 4)) := hM279.own
  obtain ⟨oa287, og288, rfl, hog289, hob290⟩ := hsf291.bs
  have base292 := Old.refl hO280.ok
  refine D_call (Ev.mono (rputn_ev hO280.ok hog289 (hM279.own.asbs) (by first | omega | (simp only [List.length_take, List.length_drop, List.length_append, List.length_cons, List.length_nil, beN_len] <;> omega)) (by first | omega | (simp only [List.length_take, List.length_drop, List.length_append, List.length_cons, List.length_nil, beN_len] <;> omega)) tie0 (n := 4) (by decide) (by first | omega | (simp only [List.length_append, List.length_cons, List.length_nil, beN_len] <;> omega))) fun v293 H294 hq295 => ?_)
  obtain ⟨hM296, hK297⟩ := hq295
  have hb298 := (hK297.keep _ (by omega)).trans hb270
  have hb299 := (hK297.keep _ (by omega)).trans hb271
  have hx_hK297 := hK297.next
  have hlt_n1 : n1 < H294.next := by omega
  have hlt_q24 : q24 < H294.next := by omega
  have hM300 := hM273.kp hK297
  have hM301 := hM274.kp hK297
  have hM302 := hM275.kp hK297
  have hM303 := hM276.kp hK297
  have hM304 := hM277.kp hK297
  have hM305 := hM278.kp hK297
  have hM306 := hM279.kp hK297
  have hO307 := hO280.trans hK297
  have hx_hO307 := hO307.next
  have hO308 := hO281.trans hK297
  have hO309 := hO282.trans hK297
  have hO310 := hO283.trans hK297
  have hO311 := hO284.trans hK297
  have hO312 := hO285.trans hK297
  have hO313 := hO286.trans hK297
  have hO314 := base292.trans hK297
  have hM315 := hM296.down (N := H.next) (by omega)
  have hd316 : ¬ v293.nameOf n1 := fun hq => by have := hM296.new _ hq; omega
  have hd317 : ¬ v293.nameOf q24 := fun hq => by have := hM296.new _ hq; omega
  refine And.intro (And.intro (Or.inl rfl) (And.intro (Or.inl rfl) True.intro)) ?_
  refine D_l (v := v293) rfl rfl rfl (r_mv rfl) ?_
  refine D_nil ?_
  refine C_region ?_
  refine O_p (.i .i64 7) (r_mv rfl) ?_
  refine O_p (.i .i64 8) (r_bin rfl rfl rfl) ?_
  refine O_p (.i .i64 8) (r_mv rfl) ?_
  refine O_nil ?_
  refine C_loop ?_
  refine C_seq ?_
  refine C_seq ?_
  refine C_region ?_
  refine O_p (.i .i64 8) (r_mv rfl) ?_
  refine O_p (.sl (some (q24, 0)) 11 11 0) (r_mv rfl) ?_
  refine O_p (.i .i64 11) (r_len rfl) ?_
  refine O_p (.b true) (r_bin rfl rfl rfl) ?_
  refine O_nil ?_
  refine C_cond (x := true) rfl (fun _ => ?_) (fun h => by cases h)
  refine C_skip ?_
  refine C_seq ?_
  refine C_block ?_
  refine C_draw fun b318 H319 hbase320 hA321 => ?_
  have hnx322 : H319.next = H294.next + 10 := hA321.1
  have hb323 := (hA321.2 _).trans hb298
  have hb324 := (hA321.2 _).trans hb299
  have hF325 := hA321.fr (fun _ => False)
  have hM326 := hM300.aside hA321
  have hM327 := hM301.aside hA321
  have hM328 := hM302.aside hA321
  have hM329 := hM303.aside hA321
  have hM330 := hM304.aside hA321
  have hM331 := hM305.aside hA321
  have hM332 := hM306.aside hA321
  have hM333 := hM315.aside hA321
  have hO334 := hO307.aside hA321
  have hx_hO334 := hO334.next
  have hO335 := hO308.aside hA321
  have hO336 := hO309.aside hA321
  have hO337 := hO310.aside hA321
  have hO338 := hO311.aside hA321
  have hO339 := hO312.aside hA321
  have hO340 := hO313.aside hA321
  have hO341 := hO314.aside hA321
  have hlt_n1 : n1 < H319.next := by omega
  have hlt_q24 : q24 < H319.next := by omega
  refine D_l (v := v293) rfl rfl rfl (r_mv rfl) ?_
  refine D_l (v := (.i .i64 8)) rfl rfl rfl (r_mv rfl) ?_
  refine D_l (v := (.p (some (n1, 8)))) rfl rfl rfl (r_iarr' rfl rfl rfl rfl) ?_
  refine D_l (v := (.sl (some (q24, 0)) 11 11 0)) rfl rfl rfl (r_mv rfl) ?_
  refine D_l (v := (.i .i64 8)) rfl rfl rfl (r_mv rfl) ?_
  refine D_l (v := (.p (some (q24, 8)))) rfl rfl rfl (by exact (r_isl' rfl rfl (by decide) (by decide) rfl)) ?_
  refine D_r (v := (.i .i64 tie1)) rfl rfl rfl (r_ld rfl hb323 rfl) ?_
  refine D_r (v := (.i .i64 4)) rfl rfl rfl (r_ld rfl hb324 rfl) ?_
  have hsf346 : Own 1 H319 v293 (bcells (((((((((([] ++ beN (w32 (Int.fdiv made (2 ^ 32))) 4) ++ beN (w32 made) 4) ++ beN (w32 (Int.fdiv life (2 ^ 32))) 4) ++ beN (w32 life) 4) ++ beN (w32 tag) 4) ++ beN (w32 peer) 4) ++ beN (w32 first) 4) ++ beN (w32 pf) 4) ++ beN (w32 room) 4) ++ beN (w32 tie0) 4)) := hM333.own
  obtain ⟨oa342, og343, rfl, hog344, hob345⟩ := hsf346.bs
  have base347 := Old.refl hO334.ok
  refine D_call (Ev.mono (rputn_ev hO334.ok hog344 (hM333.own.asbs) (by first | omega | (simp only [List.length_take, List.length_drop, List.length_append, List.length_cons, List.length_nil, beN_len] <;> omega)) (by first | omega | (simp only [List.length_take, List.length_drop, List.length_append, List.length_cons, List.length_nil, beN_len] <;> omega)) tie1 (n := 4) (by decide) (by first | omega | (simp only [List.length_append, List.length_cons, List.length_nil, beN_len] <;> omega))) fun v348 H349 hq350 => ?_)
  obtain ⟨hM351, hK352⟩ := hq350
  have hb353 := (hK352.keep _ (by omega)).trans hb323
  have hb354 := (hK352.keep _ (by omega)).trans hb324
  have hx_hK352 := hK352.next
  have hlt_n1 : n1 < H349.next := by omega
  have hlt_q24 : q24 < H349.next := by omega
  have hM355 := hM326.kp hK352
  have hM356 := hM327.kp hK352
  have hM357 := hM328.kp hK352
  have hM358 := hM329.kp hK352
  have hM359 := hM330.kp hK352
  have hM360 := hM331.kp hK352
  have hM361 := hM332.kp hK352
  have hM362 := hM333.kp hK352
  have hO363 := hO334.trans hK352
  have hx_hO363 := hO363.next
  have hO364 := hO335.trans hK352
  have hO365 := hO336.trans hK352
  have hO366 := hO337.trans hK352
  have hO367 := hO338.trans hK352
  have hO368 := hO339.trans hK352
  have hO369 := hO340.trans hK352
  have hO370 := hO341.trans hK352
  have hO371 := base347.trans hK352
  have hM372 := hM351.down (N := H.next) (by omega)
  have hd373 : ¬ v348.nameOf n1 := fun hq => by have := hM351.new _ hq; omega
  have hd374 : ¬ v348.nameOf q24 := fun hq => by have := hM351.new _ hq; omega
  refine And.intro (And.intro (Or.inl rfl) (And.intro (Or.inl rfl) True.intro)) ?_
  refine D_l (v := v348) rfl rfl rfl (r_mv rfl) ?_
  refine D_nil ?_
  refine C_region ?_
  refine O_p (.i .i64 8) (r_mv rfl) ?_
  refine O_p (.i .i64 9) (r_bin rfl rfl rfl) ?_
  refine O_p (.i .i64 9) (r_mv rfl) ?_
  refine O_nil ?_
  refine C_loop ?_
  refine C_seq ?_
  refine C_seq ?_
  refine C_region ?_
  refine O_p (.i .i64 9) (r_mv rfl) ?_
  refine O_p (.sl (some (q24, 0)) 11 11 0) (r_mv rfl) ?_
  refine O_p (.i .i64 11) (r_len rfl) ?_
  refine O_p (.b true) (r_bin rfl rfl rfl) ?_
  refine O_nil ?_
  refine C_cond (x := true) rfl (fun _ => ?_) (fun h => by cases h)
  refine C_skip ?_
  refine C_seq ?_
  refine C_block ?_
  refine C_draw fun b375 H376 hbase377 hA378 => ?_
  have hnx379 : H376.next = H349.next + 10 := hA378.1
  have hb380 := (hA378.2 _).trans hb353
  have hb381 := (hA378.2 _).trans hb354
  have hF382 := hA378.fr (fun _ => False)
  have hM383 := hM355.aside hA378
  have hM384 := hM356.aside hA378
  have hM385 := hM357.aside hA378
  have hM386 := hM358.aside hA378
  have hM387 := hM359.aside hA378
  have hM388 := hM360.aside hA378
  have hM389 := hM361.aside hA378
  have hM390 := hM362.aside hA378
  have hM391 := hM372.aside hA378
  have hO392 := hO363.aside hA378
  have hx_hO392 := hO392.next
  have hO393 := hO364.aside hA378
  have hO394 := hO365.aside hA378
  have hO395 := hO366.aside hA378
  have hO396 := hO367.aside hA378
  have hO397 := hO368.aside hA378
  have hO398 := hO369.aside hA378
  have hO399 := hO370.aside hA378
  have hO400 := hO371.aside hA378
  have hlt_n1 : n1 < H376.next := by omega
  have hlt_q24 : q24 < H376.next := by omega
  refine D_l (v := v348) rfl rfl rfl (r_mv rfl) ?_
  refine D_l (v := (.i .i64 9)) rfl rfl rfl (r_mv rfl) ?_
  refine D_l (v := (.p (some (n1, 9)))) rfl rfl rfl (r_iarr' rfl rfl rfl rfl) ?_
  refine D_l (v := (.sl (some (q24, 0)) 11 11 0)) rfl rfl rfl (r_mv rfl) ?_
  refine D_l (v := (.i .i64 9)) rfl rfl rfl (r_mv rfl) ?_
  refine D_l (v := (.p (some (q24, 9)))) rfl rfl rfl (by exact (r_isl' rfl rfl (by decide) (by decide) rfl)) ?_
  refine D_r (v := (.i .i64 out)) rfl rfl rfl (r_ld rfl hb380 rfl) ?_
  refine D_r (v := (.i .i64 2)) rfl rfl rfl (r_ld rfl hb381 rfl) ?_
  have hsf405 : Own 1 H376 v348 (bcells ((((((((((([] ++ beN (w32 (Int.fdiv made (2 ^ 32))) 4) ++ beN (w32 made) 4) ++ beN (w32 (Int.fdiv life (2 ^ 32))) 4) ++ beN (w32 life) 4) ++ beN (w32 tag) 4) ++ beN (w32 peer) 4) ++ beN (w32 first) 4) ++ beN (w32 pf) 4) ++ beN (w32 room) 4) ++ beN (w32 tie0) 4) ++ beN (w32 tie1) 4)) := hM391.own
  obtain ⟨oa401, og402, rfl, hog403, hob404⟩ := hsf405.bs
  have base406 := Old.refl hO392.ok
  refine D_call (Ev.mono (rputn_ev hO392.ok hog403 (hM391.own.asbs) (by first | omega | (simp only [List.length_take, List.length_drop, List.length_append, List.length_cons, List.length_nil, beN_len] <;> omega)) (by first | omega | (simp only [List.length_take, List.length_drop, List.length_append, List.length_cons, List.length_nil, beN_len] <;> omega)) out (n := 2) (by decide) (by first | omega | (simp only [List.length_append, List.length_cons, List.length_nil, beN_len] <;> omega))) fun v407 H408 hq409 => ?_)
  obtain ⟨hM410, hK411⟩ := hq409
  have hb412 := (hK411.keep _ (by omega)).trans hb380
  have hb413 := (hK411.keep _ (by omega)).trans hb381
  have hx_hK411 := hK411.next
  have hlt_n1 : n1 < H408.next := by omega
  have hlt_q24 : q24 < H408.next := by omega
  have hM414 := hM383.kp hK411
  have hM415 := hM384.kp hK411
  have hM416 := hM385.kp hK411
  have hM417 := hM386.kp hK411
  have hM418 := hM387.kp hK411
  have hM419 := hM388.kp hK411
  have hM420 := hM389.kp hK411
  have hM421 := hM390.kp hK411
  have hM422 := hM391.kp hK411
  have hO423 := hO392.trans hK411
  have hx_hO423 := hO423.next
  have hO424 := hO393.trans hK411
  have hO425 := hO394.trans hK411
  have hO426 := hO395.trans hK411
  have hO427 := hO396.trans hK411
  have hO428 := hO397.trans hK411
  have hO429 := hO398.trans hK411
  have hO430 := hO399.trans hK411
  have hO431 := hO400.trans hK411
  have hO432 := base406.trans hK411
  have hM433 := hM410.down (N := H.next) (by omega)
  have hd434 : ¬ v407.nameOf n1 := fun hq => by have := hM410.new _ hq; omega
  have hd435 : ¬ v407.nameOf q24 := fun hq => by have := hM410.new _ hq; omega
  refine And.intro (And.intro (Or.inl rfl) (And.intro (Or.inl rfl) True.intro)) ?_
  refine D_l (v := v407) rfl rfl rfl (r_mv rfl) ?_
  refine D_nil ?_
  refine C_region ?_
  refine O_p (.i .i64 9) (r_mv rfl) ?_
  refine O_p (.i .i64 10) (r_bin rfl rfl rfl) ?_
  refine O_p (.i .i64 10) (r_mv rfl) ?_
  refine O_nil ?_
  refine C_loop ?_
  refine C_seq ?_
  refine C_seq ?_
  refine C_region ?_
  refine O_p (.i .i64 10) (r_mv rfl) ?_
  refine O_p (.sl (some (q24, 0)) 11 11 0) (r_mv rfl) ?_
  refine O_p (.i .i64 11) (r_len rfl) ?_
  refine O_p (.b true) (r_bin rfl rfl rfl) ?_
  refine O_nil ?_
  refine C_cond (x := true) rfl (fun _ => ?_) (fun h => by cases h)
  refine C_skip ?_
  refine C_seq ?_
  refine C_block ?_
  refine C_draw fun b436 H437 hbase438 hA439 => ?_
  have hnx440 : H437.next = H408.next + 10 := hA439.1
  have hb441 := (hA439.2 _).trans hb412
  have hb442 := (hA439.2 _).trans hb413
  have hF443 := hA439.fr (fun _ => False)
  have hM444 := hM414.aside hA439
  have hM445 := hM415.aside hA439
  have hM446 := hM416.aside hA439
  have hM447 := hM417.aside hA439
  have hM448 := hM418.aside hA439
  have hM449 := hM419.aside hA439
  have hM450 := hM420.aside hA439
  have hM451 := hM421.aside hA439
  have hM452 := hM422.aside hA439
  have hM453 := hM433.aside hA439
  have hO454 := hO423.aside hA439
  have hx_hO454 := hO454.next
  have hO455 := hO424.aside hA439
  have hO456 := hO425.aside hA439
  have hO457 := hO426.aside hA439
  have hO458 := hO427.aside hA439
  have hO459 := hO428.aside hA439
  have hO460 := hO429.aside hA439
  have hO461 := hO430.aside hA439
  have hO462 := hO431.aside hA439
  have hO463 := hO432.aside hA439
  have hlt_n1 : n1 < H437.next := by omega
  have hlt_q24 : q24 < H437.next := by omega
  refine D_l (v := v407) rfl rfl rfl (r_mv rfl) ?_
  refine D_l (v := (.i .i64 10)) rfl rfl rfl (r_mv rfl) ?_
  refine D_l (v := (.p (some (n1, 10)))) rfl rfl rfl (r_iarr' rfl rfl rfl rfl) ?_
  refine D_l (v := (.sl (some (q24, 0)) 11 11 0)) rfl rfl rfl (r_mv rfl) ?_
  refine D_l (v := (.i .i64 10)) rfl rfl rfl (r_mv rfl) ?_
  refine D_l (v := (.p (some (q24, 10)))) rfl rfl rfl (by exact (r_isl' rfl rfl (by decide) (by decide) rfl)) ?_
  refine D_r (v := (.i .i64 inn)) rfl rfl rfl (r_ld rfl hb441 rfl) ?_
  refine D_r (v := (.i .i64 2)) rfl rfl rfl (r_ld rfl hb442 rfl) ?_
  have hsf468 : Own 1 H437 v407 (bcells (((((((((((([] ++ beN (w32 (Int.fdiv made (2 ^ 32))) 4) ++ beN (w32 made) 4) ++ beN (w32 (Int.fdiv life (2 ^ 32))) 4) ++ beN (w32 life) 4) ++ beN (w32 tag) 4) ++ beN (w32 peer) 4) ++ beN (w32 first) 4) ++ beN (w32 pf) 4) ++ beN (w32 room) 4) ++ beN (w32 tie0) 4) ++ beN (w32 tie1) 4) ++ beN (w32 out) 2)) := hM453.own
  obtain ⟨oa464, og465, rfl, hog466, hob467⟩ := hsf468.bs
  have base469 := Old.refl hO454.ok
  refine D_call (Ev.mono (rputn_ev hO454.ok hog466 (hM453.own.asbs) (by first | omega | (simp only [List.length_take, List.length_drop, List.length_append, List.length_cons, List.length_nil, beN_len] <;> omega)) (by first | omega | (simp only [List.length_take, List.length_drop, List.length_append, List.length_cons, List.length_nil, beN_len] <;> omega)) inn (n := 2) (by decide) (by first | omega | (simp only [List.length_append, List.length_cons, List.length_nil, beN_len] <;> omega))) fun v470 H471 hq472 => ?_)
  obtain ⟨hM473, hK474⟩ := hq472
  have hb475 := (hK474.keep _ (by omega)).trans hb441
  have hb476 := (hK474.keep _ (by omega)).trans hb442
  have hx_hK474 := hK474.next
  have hlt_n1 : n1 < H471.next := by omega
  have hlt_q24 : q24 < H471.next := by omega
  have hM477 := hM444.kp hK474
  have hM478 := hM445.kp hK474
  have hM479 := hM446.kp hK474
  have hM480 := hM447.kp hK474
  have hM481 := hM448.kp hK474
  have hM482 := hM449.kp hK474
  have hM483 := hM450.kp hK474
  have hM484 := hM451.kp hK474
  have hM485 := hM452.kp hK474
  have hM486 := hM453.kp hK474
  have hO487 := hO454.trans hK474
  have hx_hO487 := hO487.next
  have hO488 := hO455.trans hK474
  have hO489 := hO456.trans hK474
  have hO490 := hO457.trans hK474
  have hO491 := hO458.trans hK474
  have hO492 := hO459.trans hK474
  have hO493 := hO460.trans hK474
  have hO494 := hO461.trans hK474
  have hO495 := hO462.trans hK474
  have hO496 := hO463.trans hK474
  have hO497 := base469.trans hK474
  have hM498 := hM473.down (N := H.next) (by omega)
  have hd499 : ¬ v470.nameOf n1 := fun hq => by have := hM473.new _ hq; omega
  have hd500 : ¬ v470.nameOf q24 := fun hq => by have := hM473.new _ hq; omega
  refine And.intro (And.intro (Or.inl rfl) (And.intro (Or.inl rfl) True.intro)) ?_
  refine D_l (v := v470) rfl rfl rfl (r_mv rfl) ?_
  refine D_nil ?_
  refine C_region ?_
  refine O_p (.i .i64 10) (r_mv rfl) ?_
  refine O_p (.i .i64 11) (r_bin rfl rfl rfl) ?_
  refine O_p (.i .i64 11) (r_mv rfl) ?_
  refine O_nil ?_
  refine C_loop ?_
  refine C_seq ?_
  refine C_seq ?_
  refine C_region ?_
  refine O_p (.i .i64 11) (r_mv rfl) ?_
  refine O_p (.sl (some (q24, 0)) 11 11 0) (r_mv rfl) ?_
  refine O_p (.i .i64 11) (r_len rfl) ?_
  refine O_p (.b false) (r_bin rfl rfl rfl) ?_
  refine O_nil ?_
  refine C_cond (x := false) rfl (fun h => by cases h) (fun _ => ?_)
  refine C_exit ?_
  refine nx_exit ?_
  refine nx_exit ?_
  refine bk_hit ?_
  refine C_seq ?_
  refine C_region ?_
  refine O_p (.sl ka key.length kc kg) (r_mv rfl) ?_
  refine O_p v470 (r_mv rfl) ?_
  have hsf505 : Own 1 H471 v470 (bcells ((((((((((((([] ++ beN (w32 (Int.fdiv made (2 ^ 32))) 4) ++ beN (w32 made) 4) ++ beN (w32 (Int.fdiv life (2 ^ 32))) 4) ++ beN (w32 life) 4) ++ beN (w32 tag) 4) ++ beN (w32 peer) 4) ++ beN (w32 first) 4) ++ beN (w32 pf) 4) ++ beN (w32 room) 4) ++ beN (w32 tie0) 4) ++ beN (w32 tie1) 4) ++ beN (w32 out) 2) ++ beN (w32 inn) 2)) := hM498.own
  obtain ⟨oa501, og502, rfl, hog503, hob504⟩ := hsf505.bs
  have base506 := Old.refl hO487.ok
  refine O_call (Ev.mono (coded_ev hO487.ok khg (khb.old hok hO487) (by first | omega | (simp only [List.length_take, List.length_drop, List.length_append, List.length_cons, List.length_nil, beN_len] <;> omega)) (by first | omega | (simp only [List.length_take, List.length_drop, List.length_append, List.length_cons, List.length_nil, beN_len] <;> omega)) hog503 (hM498.own.asbs) (by first | omega | (simp only [List.length_take, List.length_drop, List.length_append, List.length_cons, List.length_nil, beN_len] <;> omega)) (by first | omega | (simp only [List.length_take, List.length_drop, List.length_append, List.length_cons, List.length_nil, beN_len] <;> omega)) hk16 (by first | omega | (simp only [List.length_append, List.length_cons, List.length_nil, beN_len] <;> omega))) fun v507 H508 hq509 => ?_)
  obtain ⟨hM510, hK511⟩ := hq509
  have hb512 := (hK511.keep _ (by omega)).trans hb475
  have hb513 := (hK511.keep _ (by omega)).trans hb476
  have hx_hK511 := hK511.next
  have hlt_n1 : n1 < H508.next := by omega
  have hlt_q24 : q24 < H508.next := by omega
  have hM514 := hM477.kp hK511
  have hM515 := hM478.kp hK511
  have hM516 := hM479.kp hK511
  have hM517 := hM480.kp hK511
  have hM518 := hM481.kp hK511
  have hM519 := hM482.kp hK511
  have hM520 := hM483.kp hK511
  have hM521 := hM484.kp hK511
  have hM522 := hM485.kp hK511
  have hM523 := hM486.kp hK511
  have hM524 := hM498.kp hK511
  have hO525 := hO487.trans hK511
  have hx_hO525 := hO525.next
  have hO526 := hO488.trans hK511
  have hO527 := hO489.trans hK511
  have hO528 := hO490.trans hK511
  have hO529 := hO491.trans hK511
  have hO530 := hO492.trans hK511
  have hO531 := hO493.trans hK511
  have hO532 := hO494.trans hK511
  have hO533 := hO495.trans hK511
  have hO534 := hO496.trans hK511
  have hO535 := hO497.trans hK511
  have hO536 := base506.trans hK511
  have hM537 := hM510.down (N := H.next) (by omega)
  have hd538 : ¬ v507.nameOf n1 := fun hq => by have := hM510.new _ hq; omega
  have hd539 : ¬ v507.nameOf q24 := fun hq => by have := hM510.new _ hq; omega
  refine O_p v507 (r_mv rfl) ?_
  refine O_p (.b true) (r_mv rfl) ?_
  refine O_nil ?_
  refine C_ret ?_
  have hfin : Mine H.next 1 H508 v507 (bcells (sealed key (b32 (wordsL made life tag peer first pf room out inn tie0 tie1)))) := by have h := hM537; rw [ref_bytes made life tag peer first pf room out inn tie0 tie1 ht hp hf hpf hr ho hi h0 h1] at h; exact h
  exact ⟨.inr rfl, _, resL_cons (r_tmp (v := v507) rfl) (resL_one (r_tmp (v := .b true) rfl)), _, rfl, hfin, hO525⟩
set_option maxRecDepth 100000 in
set_option maxHeartbeats 4000000 in
theorem renc_f1 {H : AH} (hok : H.Ok) {ka : Option (Nat × Nat)} {kn kc kg : Nat} (khg : kg = 0 ∨ kg = 1) {key : List UInt8} (khb : Bs H (.sl ka kn kc kg) key) (khc : kn ≤ kc) (khm : kc ≤ 9223372036854775807) (made life tag peer first pf room out inn tie0 tie1 : Int) (ht : 0 ≤ tag ∧ tag < 4294967296) (hp : 0 ≤ peer ∧ peer < 4294967296) (hf : 0 ≤ first ∧ first < 4294967296) (hpf : 0 ≤ pf ∧ pf < 4294967296) (hr : 0 ≤ room ∧ room < 4294967296) (ho : 0 ≤ out ∧ out < 65536) (hi : 0 ≤ inn ∧ inn < 65536) (h0 : 0 ≤ tie0 ∧ tie0 < 4294967296) (h1 : 0 ≤ tie1 ∧ tie1 < 4294967296) (hk16 : key.length = 16) (hS : okS made life = false) : Ev tabA spA (.fn (.func 11) [] []) [.sl ka kn kc kg, .agg [(.i .i64 made), (.i .i64 life), (.i .i64 tag), (.i .i64 peer), (.i .i64 first), (.i .i64 pf), (.i .i64 room), (.i .i64 tie0), (.i .i64 tie1), (.i .i64 out), (.i .i64 inn)]] H (fun r H' => ∃ v, r = .tup [v, .b false] ∧ Mine H.next 1 H' v [] ∧ Kp H H') := by
  have khl := khb.length
  subst khl
  refine Ev_C (F := x11) rfl ?_
  have hO0 := Old.refl hok
  have hS4 : ¬ (((0 ≤ made ∧ made ≤ 281474976710656) ∧ 0 ≤ life) ∧ life ≤ 281474976710656) := by intro h; unfold okS at hS; simp only [h, and_self, decide_true, Bool.and_self] at hS; cases hS
  have h24 : tabA 24 = some x24 := rfl
  refine C_seq ?_
  refine C_region ?_
  refine O_box (z := [(.i .i64 made), (.i .i64 life), (.i .i64 tag), (.i .i64 peer), (.i .i64 first), (.i .i64 pf), (.i .i64 room), (.i .i64 tie0), (.i .i64 tie1), (.i .i64 out), (.i .i64 inn)]) rfl fun n1 H2 hN3 => ?_
  have hF4 := hN3.fr (fun _ => False)
  have hO5 := hO0.new hN3
  have hx_hO5 := hO5.next
  have hnm_n1 : n1 = H.next := hN3.1
  have hnx_H2 : H2.next = H.next + 1 := hN3.2.1
  have hlt_n1 : n1 < H2.next := by omega
  refine O_p (.sl none 0 0 0) (r_mv rfl) ?_
  refine O_p (.b false) (r_mv rfl) ?_
  refine O_nil ?_
  refine C_seq ?_
  refine C_seq ?_
  refine C_region ?_
  refine O_p (.sl ka key.length kc kg) (r_mv rfl) ?_
  refine O_p (.i .i64 (((key.length : Nat)) : Int)) (r_len rfl) ?_
  refine O_p (.b false) (by exact (by rw [r_neq rfl rfl, decide_eq_true (by omega)]; rfl)) ?_
  refine O_p (.b false) (r_mv rfl) ?_
  refine O_gs (v := (.p (some (n1, 0)))) rfl (r_iarr' rfl rfl rfl rfl) ?_
  refine O_gs (v := (.i .i64 made)) rfl (r_ld rfl hN3.2.2.1 rfl) ?_
  refine O_gs (v := (.b (decide (made < 0)))) rfl (r_lss rfl rfl) ?_
  refine O_p (.b (decide (made < 0))) (r_pick_f rfl rfl) ?_
  refine O_p (.b (decide (made < 0))) (r_mv rfl) ?_
  refine O_gx (e := (!(decide (made < 0)))) (v := (.p (some (n1, 0)))) (wf rfl) (fun he => (r_iarr' rfl rfl rfl rfl)) ?_
  refine O_gx (e := (!(decide (made < 0)))) (v := (.i .i64 made)) (wf rfl) (fun he => (r_ld (cond_pos he) hN3.2.2.1 rfl)) ?_
  refine O_gx (e := (!(decide (made < 0)))) (v := (.b (decide (281474976710656 < made)))) (wf rfl) (fun he => (r_gtr (cond_pos he) rfl)) ?_
  refine O_p (.b ((decide (made < 0)) || (decide (281474976710656 < made)))) (r_pick_or rfl rfl rfl rfl) ?_
  refine O_p (.b ((decide (made < 0)) || (decide (281474976710656 < made)))) (r_mv rfl) ?_
  refine O_gx (e := (!((decide (made < 0)) || (decide (281474976710656 < made))))) (v := (.p (some (n1, 1)))) (wf rfl) (fun he => (r_iarr' rfl rfl rfl rfl)) ?_
  refine O_gx (e := (!((decide (made < 0)) || (decide (281474976710656 < made))))) (v := (.i .i64 life)) (wf rfl) (fun he => (r_ld (cond_pos he) hN3.2.2.1 rfl)) ?_
  refine O_gx (e := (!((decide (made < 0)) || (decide (281474976710656 < made))))) (v := (.b (decide (life < 0)))) (wf rfl) (fun he => (r_lss (cond_pos he) rfl)) ?_
  refine O_p (.b (((decide (made < 0)) || (decide (281474976710656 < made))) || (decide (life < 0)))) (r_pick_or rfl rfl rfl rfl) ?_
  refine O_p (.b (((decide (made < 0)) || (decide (281474976710656 < made))) || (decide (life < 0)))) (r_mv rfl) ?_
  refine O_gx (e := (!(((decide (made < 0)) || (decide (281474976710656 < made))) || (decide (life < 0))))) (v := (.p (some (n1, 1)))) (wf rfl) (fun he => (r_iarr' rfl rfl rfl rfl)) ?_
  refine O_gx (e := (!(((decide (made < 0)) || (decide (281474976710656 < made))) || (decide (life < 0))))) (v := (.i .i64 life)) (wf rfl) (fun he => (r_ld (cond_pos he) hN3.2.2.1 rfl)) ?_
  refine O_gx (e := (!(((decide (made < 0)) || (decide (281474976710656 < made))) || (decide (life < 0))))) (v := (.b (decide (281474976710656 < life)))) (wf rfl) (fun he => (r_gtr (cond_pos he) rfl)) ?_
  refine O_p (.b ((((decide (made < 0)) || (decide (281474976710656 < made))) || (decide (life < 0))) || (decide (281474976710656 < life)))) (r_pick_or rfl rfl rfl rfl) ?_
  refine O_nil ?_
  refine C_cond (x := ((((decide (made < 0)) || (decide (281474976710656 < made))) || (decide (life < 0))) || (decide (281474976710656 < life)))) rfl (fun hc6 => ?_) (fun hc6 => ?_)
  ·
    simp only [decide_eq_true_eq, decide_eq_false_iff_not, Bool.not_eq_true', Bool.not_eq_false', Bool.and_eq_true, Bool.or_eq_true, Bool.or_eq_false_iff, Bool.not_not] at hc6
    refine C_seq ?_
    refine C_region ?_
    refine O_p (.sl none 0 0 0) (r_mv rfl) ?_
    refine O_p (.b false) (r_mv rfl) ?_
    refine O_nil ?_
    refine C_ret ?_
    refine nx_ret ?_
    exact ⟨.inr rfl, _, resL_cons (r_tmp (v := .sl none 0 0 0) rfl) (resL_one (r_tmp (v := .b false) rfl)), _, rfl, Mine.nil _ _ _, hO5⟩
  ·
    simp only [decide_eq_true_eq, decide_eq_false_iff_not, Bool.not_eq_true', Bool.not_eq_false', Bool.and_eq_true, Bool.or_eq_true, Bool.or_eq_false_iff, Bool.not_not] at hc6
    exfalso; omega
set_option maxRecDepth 100000 in
set_option maxHeartbeats 4000000 in
theorem renc_f2 {H : AH} (hok : H.Ok) {ka : Option (Nat × Nat)} {kn kc kg : Nat} (khg : kg = 0 ∨ kg = 1) {key : List UInt8} (khb : Bs H (.sl ka kn kc kg) key) (khc : kn ≤ kc) (khm : kc ≤ 9223372036854775807) (made life tag peer first pf room out inn tie0 tie1 : Int) (ht : 0 ≤ tag ∧ tag < 4294967296) (hp : 0 ≤ peer ∧ peer < 4294967296) (hf : 0 ≤ first ∧ first < 4294967296) (hpf : 0 ≤ pf ∧ pf < 4294967296) (hr : 0 ≤ room ∧ room < 4294967296) (ho : 0 ≤ out ∧ out < 65536) (hi : 0 ≤ inn ∧ inn < 65536) (h0 : 0 ≤ tie0 ∧ tie0 < 4294967296) (h1 : 0 ≤ tie1 ∧ tie1 < 4294967296) (hk16 : ¬ key.length = 16) : Ev tabA spA (.fn (.func 11) [] []) [.sl ka kn kc kg, .agg [(.i .i64 made), (.i .i64 life), (.i .i64 tag), (.i .i64 peer), (.i .i64 first), (.i .i64 pf), (.i .i64 room), (.i .i64 tie0), (.i .i64 tie1), (.i .i64 out), (.i .i64 inn)]] H (fun r H' => ∃ v, r = .tup [v, .b false] ∧ Mine H.next 1 H' v [] ∧ Kp H H') := by
  have khl := khb.length
  subst khl
  refine Ev_C (F := x11) rfl ?_
  have hO0 := Old.refl hok
  have h24 : tabA 24 = some x24 := rfl
  refine C_seq ?_
  refine C_region ?_
  refine O_box (z := [(.i .i64 made), (.i .i64 life), (.i .i64 tag), (.i .i64 peer), (.i .i64 first), (.i .i64 pf), (.i .i64 room), (.i .i64 tie0), (.i .i64 tie1), (.i .i64 out), (.i .i64 inn)]) rfl fun n1 H2 hN3 => ?_
  have hF4 := hN3.fr (fun _ => False)
  have hO5 := hO0.new hN3
  have hx_hO5 := hO5.next
  have hnm_n1 : n1 = H.next := hN3.1
  have hnx_H2 : H2.next = H.next + 1 := hN3.2.1
  have hlt_n1 : n1 < H2.next := by omega
  refine O_p (.sl none 0 0 0) (r_mv rfl) ?_
  refine O_p (.b false) (r_mv rfl) ?_
  refine O_nil ?_
  refine C_seq ?_
  refine C_seq ?_
  refine C_region ?_
  refine O_p (.sl ka key.length kc kg) (r_mv rfl) ?_
  refine O_p (.i .i64 (((key.length : Nat)) : Int)) (r_len rfl) ?_
  refine O_p (.b true) (by exact (by rw [r_neq rfl rfl, decide_eq_false (by omega)]; rfl)) ?_
  refine O_p (.b true) (r_mv rfl) ?_
  refine O_gf rfl ?_
  refine O_gf rfl ?_
  refine O_gf rfl ?_
  refine O_p (.b true) (r_pick_t rfl rfl) ?_
  refine O_p (.b true) (r_mv rfl) ?_
  refine O_gf rfl ?_
  refine O_gf rfl ?_
  refine O_gf rfl ?_
  refine O_p (.b true) (r_pick_t rfl rfl) ?_
  refine O_p (.b true) (r_mv rfl) ?_
  refine O_gf rfl ?_
  refine O_gf rfl ?_
  refine O_gf rfl ?_
  refine O_p (.b true) (r_pick_t rfl rfl) ?_
  refine O_p (.b true) (r_mv rfl) ?_
  refine O_gf rfl ?_
  refine O_gf rfl ?_
  refine O_gf rfl ?_
  refine O_p (.b true) (r_pick_t rfl rfl) ?_
  refine O_nil ?_
  refine C_cond (x := true) rfl (fun _ => ?_) (fun h => by cases h)
  refine C_seq ?_
  refine C_region ?_
  refine O_p (.sl none 0 0 0) (r_mv rfl) ?_
  refine O_p (.b false) (r_mv rfl) ?_
  refine O_nil ?_
  refine C_ret ?_
  refine nx_ret ?_
  exact ⟨.inr rfl, _, resL_cons (r_tmp (v := .sl none 0 0 0) rfl) (resL_one (r_tmp (v := .b false) rfl)), _, rfl, Mine.nil _ _ _, hO5⟩
end Go.Proofs.Yteapgimihapefaa.E
