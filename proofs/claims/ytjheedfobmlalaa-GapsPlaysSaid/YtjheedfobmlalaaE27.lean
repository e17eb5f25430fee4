/- Rules that a printed walk uses, an operation each; facts for functions of flat arguments. It bears no condition. -/
import Derived.Test.YtjheedfobmlalaaE26
namespace Go.Proofs.Ytjheedfobmlalaa.E
set_option linter.unusedVariables false
set_option linter.unusedSimpArgs false

/-- A table without some functions. -/
def without (l : List Nat) (tab : Nat → Option XFun) : Nat → Option XFun := fun g => if l.contains g then none else tab g
theorem cond_pos {e : Bool} {a b : AV} (h : e = true) : (bif e then a else b) = a := by rw [h]; rfl

section
variable {tab : Nat → Option XFun} {sp : Nat → List AV → AH → Option (AV × AH)} {T : Tm} {H : AH} {R : Tm → AH → Prop}
/-- A guarded operation of which the guard is not known. -/
theorem O_gx {d : Nat} {op : XOp} {g : Nat} {w : Bool} {ix : Nat} {bef : List Nat} {l : List XOper} {v : AV} {e : Bool} (hw : XOper.wanted ⟨some d, op, some (g, w), ix, bef⟩ T = e) (h : e = true → op.run noCall T H = some (v, H)) (k : O tab sp l ((d, bif e then v else und) :: T) H R) :
    O tab sp (⟨some d, op, some (g, w), ix, bef⟩ :: l) T H R := fun Tx te => by
  obtain ⟨n, T1, H1, T2, k, r⟩ := k (Tx.set d (bif e then v else und)) (te.cons d _)
  refine ⟨n, T1, H1, T2, ?_, r⟩
  simp only [runOps]
  rw [wanted_te te, hw]
  cases e with
  | true =>
    simp only [if_true]
    rw [run_te te, run_mono (noCall_le _) (h rfl)]
    exact k
  | false => simp only [Bool.false_eq_true, if_false]; exact k
section
variable {d : Option Nat} {op : XOp} {g ix : Nat} {bef : List Nat} {x e : Bool}
theorem wt (h : T.get g = .b x) : XOper.wanted ⟨d, op, some (g, true), ix, bef⟩ T = x := by simp only [XOper.wanted, h]; cases x <;> rfl
theorem wf (h : T.get g = .b x) : XOper.wanted ⟨d, op, some (g, false), ix, bef⟩ T = !x := by simp only [XOper.wanted, h]; cases x <;> rfl
end

/-- A block that is made. -/
def New (H : AH) (n : Nat) (b : Blk) (H' : AH) : Prop := n = H.next ∧ H'.next = H.next + 1 ∧ H'.get n = some b ∧ ∀ m, m ≠ n → H'.get m = H.get m
theorem O_alloc {d : Nat} {z : List AV} {ix : Nat} {bef : List Nat} {l : List XOper} (k : ∀ n H', New H n (.cells z true) H' → O tab sp l ((d, .p (some (n, 0))) :: T) H' R) : O tab sp (⟨some d, .alloc z, none, ix, bef⟩ :: l) T H R :=
  O_s rfl (k _ _ ⟨rfl, rfl, AH.alloc_new _ _, fun m h => by rw [AH.get_alloc, if_neg (Ne.symm h)]⟩)
theorem O_box {d : Nat} {x : XO} {z : List AV} {ix : Nat} {bef : List Nat} {l : List XOper} (hx : (x.ev T).cellsOf = some z) (k : ∀ n H', New H n (.cells z true) H' → O tab sp l ((d, .p (some (n, 0))) :: T) H' R) : O tab sp (⟨some d, .box x, none, ix, bef⟩ :: l) T H R :=
  O_s (v := .p (some (H.next, 0))) (H' := H.alloc (.cells z true)) (by simp only [XOp.run, XOp.make, hx, Option.map_some]) (k _ _ ⟨rfl, rfl, AH.alloc_new _ _, fun m h => by rw [AH.get_alloc, if_neg (Ne.symm h)]⟩)
theorem O_bslice {d : Nat} {z c : List AV} {ps : List (Nat × Nat × XO)} {len : Nat} {ix : Nat} {bef : List Nat} {l : List XOper} (hx : fillP T z ps = some c) (k : ∀ n H', New H n (.cells c true) H' → O tab sp l ((d, .sl (some (n, 0)) len len 0) :: T) H' R) : O tab sp (⟨some d, .bslice z ps len, none, ix, bef⟩ :: l) T H R :=
  O_s (v := .sl (some (H.next, 0)) len len 0) (H' := H.alloc (.cells c true)) (by simp only [XOp.run, XOp.make, hx, Option.map_some]) (k _ _ ⟨rfl, rfl, AH.alloc_new _ _, fun m h => by rw [AH.get_alloc, if_neg (Ne.symm h)]⟩)
/-- A block that is written. -/
def Wr (H : AH) (n : Nat) (b : Blk) (H' : AH) : Prop := H'.next = H.next ∧ H'.get n = some b ∧ ∀ m, m ≠ n → H'.get m = H.get m
theorem O_store {n : Nat} {a x : XO} {b o : Nat} {cs vs c' : List AV} {ix : Nat} {bef : List Nat} {l : List XOper} (ha : a.ev T = .p (some (b, o))) (hx : (x.ev T).cellsOf = some vs) (hb : H.get b = some (.cells cs true)) (hn : vs.length = n) (h0 : vs ≠ []) (hl : o + vs.length ≤ cs.length) (hc : putAt cs o vs = c')
    (k : ∀ H', Wr H b (.cells c' true) H' → O tab sp l T H' R) : O tab sp (⟨none, .store n a x, none, ix, bef⟩ :: l) T H R :=
  O_n (r_st ha hx hb hn h0 hl) (k _ ⟨rfl, by rw [AH.set_same, hc], fun m h => AH.set_other _ _ (Ne.symm h)⟩)
theorem New.fr {H H' : AH} {n : Nat} {b : Blk} (h : New H n b H') (S : Nat → Prop) : Fr S H H' := ⟨by rw [h.2.1]; omega, fun m hm _ => h.2.2.2 m (by have := h.1; omega)⟩
theorem Wr.fr {H H' : AH} {n : Nat} {b : Blk} (h : Wr H n b H') {S : Nat → Prop} (hs : S n ∨ H.next ≤ n) : Fr S H H' := ⟨by rw [h.1]; exact Nat.le_refl _, fun m hm hS => h.2.2 m (by rintro rfl; rcases hs with h | h; exact hS h; omega)⟩
end

section
variable {T : Tm} {H : AH} {c : CallF}
theorem r_mv {x : XO} {v : AV} (hx : x.ev T = v) : (XOp.mv x).run c T H = some (v, H) := by simp only [XOp.run, XOp.look, hx, Option.map_some]
theorem r_bin {op : BinOp} {x y : XO} {a b v : AV} (hx : x.ev T = a) (hy : y.ev T = b) (h : pbin op a b = some v) : (XOp.bin op x y).run c T H = some (v, H) := by simp only [XOp.run, XOp.look, hx, hy, h, Option.map_some]
theorem r_un {op : UnOp} {x : XO} {a v : AV} (hx : x.ev T = a) (h : pun op a = some v) : (XOp.unx op x).run c T H = some (v, H) := by simp only [XOp.run, XOp.look, hx, h, Option.map_some]
theorem r_cint {k k' : IntKind} {x : XO} {n : Int} (hx : x.ev T = .i k' n) : (XOp.cint k x).run c T H = some (.i k (k.wrap n), H) := by simp only [XOp.run, XOp.look, hx, Option.map_some]
theorem r_cint' {k k' : IntKind} {x : XO} {n m : Int} (hx : x.ev T = .i k' n) (h : k.wrap n = m) : (XOp.cint k x).run c T H = some (.i k m, H) := by rw [← h]; exact r_cint hx
theorem r_len {x : XO} {a : Option (Nat × Nat)} {len cap g : Nat} (hx : x.ev T = .sl a len cap g) : (XOp.lenx x).run c T H = some (.i .i64 len, H) := by simp only [XOp.run, XOp.look, hx, Option.map_some]
theorem r_lenOf {x : XO} {v : AV} {n : Nat} (hx : x.ev T = v) (h : lenOfA v = some n) (hs : ∃ a len cap g, v = .sl a len cap g) : (XOp.lenx x).run c T H = some (.i .i64 n, H) := by
  obtain ⟨a, len, cap, g, rfl⟩ := hs
  simp only [lenOfA, Option.some.injEq] at h; subst h
  exact r_len hx
theorem r_ext {x : XO} {l : List AV} {i : Nat} {v : AV} (hx : x.ev T = .tup l) (h : l[i]? = some v) : (XOp.ext x i).run c T H = some (v, H) := by simp only [XOp.run, XOp.look, hx, h, Option.map_some]
theorem r_fadd {off : Nat} {x : XO} {b o : Nat} (hx : x.ev T = .p (some (b, o))) : (XOp.fadd off x).run c T H = some (.p (some (b, o + off)), H) := by simp only [XOp.run, XOp.look, hx, Option.map_some]
theorem r_build {z l : List AV} {ps : List (Nat × Nat × XO)} (h : fillP T z ps = some l) : (XOp.build z ps).run c T H = some (.agg l, H) := by simp only [XOp.run, XOp.look, h, Option.map_some]
theorem r_beq {neg : Bool} {x y : XO} {a b : Bool} (hx : x.ev T = .b a) (hy : y.ev T = .b b) : (XOp.beq neg x y).run c T H = some (.b (if neg then !(a == b) else a == b), H) := by simp only [XOp.run, XOp.look, hx, hy, Option.map_some]
theorem r_pick_and {cx a b : XO} {x y e : Bool} (hc : cx.ev T = .b x) (ha : a.ev T = bif e then .b y else und) (he : e = x) (hb : b.ev T = .b false) : (XOp.pick cx a b).run c T H = some (.b (x && y), H) := by
  subst he; simp only [XOp.run, XOp.look, hc, ha, hb, Option.map_some]; cases e <;> rfl
theorem r_pick_or {cx a b : XO} {x y e : Bool} (hc : cx.ev T = .b x) (ha : a.ev T = .b true) (hb : b.ev T = bif e then .b y else und) (he : e = !x) : (XOp.pick cx a b).run c T H = some (.b (x || y), H) := by
  subst he; simp only [XOp.run, XOp.look, hc, ha, hb, Option.map_some]; cases x <;> rfl
theorem r_addi {k : IntKind} {x y : XO} {a b : Int} (hx : x.ev T = .i k a) (hy : y.ev T = .i k b) (h : k.wrap (a + b) = a + b) : (XOp.bin .add x y).run c T H = some (.i k (a + b), H) := r_bin hx hy (by simp only [pbin, if_true, h])
theorem r_subi {k : IntKind} {x y : XO} {a b : Int} (hx : x.ev T = .i k a) (hy : y.ev T = .i k b) (h : k.wrap (a - b) = a - b) : (XOp.bin .sub x y).run c T H = some (.i k (a - b), H) := r_bin hx hy (by simp only [pbin, if_true, h])
theorem r_muli {k : IntKind} {x y : XO} {a b : Int} (hx : x.ev T = .i k a) (hy : y.ev T = .i k b) (h : k.wrap (a * b) = a * b) : (XOp.bin .mul x y).run c T H = some (.i k (a * b), H) := r_bin hx hy (by simp only [pbin, if_true, h])
theorem r_lss {k : IntKind} {x y : XO} {a b : Int} (hx : x.ev T = .i k a) (hy : y.ev T = .i k b) : (XOp.bin .lss x y).run c T H = some (.b (decide (a < b)), H) := r_bin hx hy (by simp only [pbin, if_true, icmp, Option.map_some])
theorem r_leq {k : IntKind} {x y : XO} {a b : Int} (hx : x.ev T = .i k a) (hy : y.ev T = .i k b) : (XOp.bin .leq x y).run c T H = some (.b (decide (a ≤ b)), H) := r_bin hx hy (by simp only [pbin, if_true, icmp, Option.map_some])
theorem r_gtr {k : IntKind} {x y : XO} {a b : Int} (hx : x.ev T = .i k a) (hy : y.ev T = .i k b) : (XOp.bin .gtr x y).run c T H = some (.b (decide (b < a)), H) := r_bin hx hy (by simp only [pbin, if_true, icmp, Option.map_some])
theorem r_geq {k : IntKind} {x y : XO} {a b : Int} (hx : x.ev T = .i k a) (hy : y.ev T = .i k b) : (XOp.bin .geq x y).run c T H = some (.b (decide (b ≤ a)), H) := r_bin hx hy (by simp only [pbin, if_true, icmp, Option.map_some])
theorem r_eql {k : IntKind} {x y : XO} {a b : Int} (hx : x.ev T = .i k a) (hy : y.ev T = .i k b) : (XOp.bin .eql x y).run c T H = some (.b (decide (a = b)), H) := r_bin hx hy (by simp only [pbin, if_true, icmp, Option.map_some])
theorem r_neq {k : IntKind} {x y : XO} {a b : Int} (hx : x.ev T = .i k a) (hy : y.ev T = .i k b) : (XOp.bin .neq x y).run c T H = some (.b (!decide (a = b)), H) := r_bin hx hy (by simp only [pbin, if_true, icmp, Option.map_some])
theorem r_not {x : XO} {a : Bool} (hx : x.ev T = .b a) : (XOp.unx .not x).run c T H = some (.b (!a), H) := r_un hx rfl
end

theorem wrap_i64 {n : Int} (h0 : -9223372036854775808 ≤ n) (h1 : n < 9223372036854775808) : IntKind.i64.wrap n = n := by
  simp [IntKind.wrap, IntKind.signed, IntKind.bits]; omega
theorem wrap_u64 (n : Int) : IntKind.u64.wrap n = n % 18446744073709551616 := by simp [IntKind.wrap, IntKind.signed, IntKind.bits]
theorem wrap_u32 (n : Int) : IntKind.u32.wrap n = n % 4294967296 := by simp [IntKind.wrap, IntKind.signed, IntKind.bits]
theorem wrap_u16 (n : Int) : IntKind.u16.wrap n = n % 65536 := by simp [IntKind.wrap, IntKind.signed, IntKind.bits]
theorem wrap_u8 (n : Int) : IntKind.u8.wrap n = n % 256 := by simp [IntKind.wrap, IntKind.signed, IntKind.bits]
end Go.Proofs.Ytjheedfobmlalaa.E
