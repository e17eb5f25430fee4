/- More rules: calls under guards that are known, the same on both sides; octets that are handed on. It bears no condition. -/
import Derived.Test.YtjheedfobmlalaaE33
namespace Go.Proofs.Ytjheedfobmlalaa.E
set_option linter.unusedVariables false
set_option linter.unusedSimpArgs false

theorem cons_eq {a b : AV} {l m : List AV} (h : a = b) (k : l = m) : a :: l = b :: m := by rw [h, k]
/-- A value of octets, whatever its room. -/
def OctV (H : AH) (v : AV) (l : List UInt8) : Prop := ∃ a cap g, v = .sl a l.length cap g ∧ (g = 0 ∨ g = 1) ∧ l.length ≤ cap ∧ cap ≤ 9223372036854775807 ∧ Bs H v l
theorem OctV.kp {H H' : AH} {v : AV} {l : List UInt8} (h : OctV H v l) (ho : H.Ok) (k : Kp H H') : OctV H' v l := by
  obtain ⟨a, cap, g, h1, h2, h3, h4, h5⟩ := h
  exact ⟨a, cap, g, h1, h2, h3, h4, h5.kp ho k⟩
theorem OctV.nil (H : AH) : OctV H (.sl none 0 0 0) [] := ⟨none, 0, 0, rfl, .inl rfl, Nat.le_refl _, Nat.zero_le _, .nil⟩
theorem Own.asbs {H : AH} {v : AV} {l : List UInt8} (h : Own 1 H v (bcells l)) : Bs H v l := by
  obtain ⟨a, g, rfl, _, h⟩ := h.bs; exact h
theorem Own.octv {H : AH} {v : AV} {l : List UInt8} (h : Own 1 H v (bcells l)) (hl : l.length ≤ 9223372036854775807) : OctV H v l := by
  obtain ⟨a, g, rfl, h1, h2⟩ := h.bs
  exact ⟨a, l.length, g, rfl, h1, Nat.le_refl _, hl, h2⟩
section
variable {tab : Nat → Option XFun} {sp : Nat → List AV → AH → Option (AV × AH)} {T : Tm} {H : AH} {R : Tm → AH → Prop}
theorem O_gcall {d g : Nat} {w : Bool} {f : XO} {args : List XO} {ix : Nat} {bef : List Nat} {l : List XOper} (hg : T.get g = .b w) (h : Ev tab sp (f.ev T) (args.map (·.ev T)) H (fun v H' => O tab sp l ((d, v) :: T) H' R)) : O tab sp (⟨some d, .call f args, some (g, w), ix, bef⟩ :: l) T H R := fun Tx te => by
  obtain ⟨k, v, H', h, o⟩ := h
  obtain ⟨n, T1, H1, T2, h2, r⟩ := o (Tx.set d v) (te.cons d v)
  refine ⟨max k n, T1, H1, T2, ?_, r⟩
  simp only [runOps, XOper.wanted, te g, hg, beq_self_eq_true, if_true]
  rw [run_te te]
  simp only [XOp.run]
  rw [exec_mono (Nat.le_max_left k n) _ _ _ _ h]
  exact runOps_mono (exec_mono (Nat.le_max_right k n)) l h2
theorem O_gc2 {d : Nat} {f : XO} {args : List XO} {g : Nat} {w : Bool} {ix : Nat} {bef : List Nat} {l : List XOper} {v : AV} {e : Bool} {as' : List AV} (hw : XOper.wanted ⟨some d, .call f args, some (g, w), ix, bef⟩ T = e) (ha : e = true → args.map (·.ev T) = as') (h : e = true → Ev tab sp (f.ev T) as' H (fun x H' => x = v ∧ H' = H)) (k : O tab sp l ((d, bif e then v else und) :: T) H R) :
    O tab sp (⟨some d, .call f args, some (g, w), ix, bef⟩ :: l) T H R := O_gc hw (fun he => by rw [ha he]; exact h he) k
theorem O_gqs {d g : Nat} {w : Bool} {op : XOp} {ix : Nat} {bef : List Nat} {l : List XOper} {P : AV → Prop} (hg : T.get g = .b w) (h : ∃ v, op.run noCall T H = some (v, H) ∧ P v) (k : ∀ v, P v → O tab sp l ((d, v) :: T) H R) : O tab sp (⟨some d, op, some (g, w), ix, bef⟩ :: l) T H R := by
  obtain ⟨v, h, p⟩ := h; exact O_gs hg h (k v p)
end
section
variable {T : Tm} {H : AH} {c : CallF} {x y : XO}
theorem r_eqq {k : IntKind} {a : Int} (hx : x.ev T = .i k a) (hy : y.ev T = .i k a) : (XOp.bin .eql x y).run c T H = some (.b true, H) := by rw [r_eql hx hy]; simp
theorem r_nqq {k : IntKind} {a : Int} (hx : x.ev T = .i k a) (hy : y.ev T = .i k a) : (XOp.bin .neq x y).run c T H = some (.b false, H) := by rw [r_neq hx hy]; simp
theorem r_beqq {a : Bool} (hx : x.ev T = .b a) (hy : y.ev T = .b a) : (XOp.beq false x y).run c T H = some (.b true, H) := by rw [r_beq hx hy]; simp
theorem r_quou {k : IntKind} {a b : Int} (hx : x.ev T = .i k a) (hy : y.ev T = .i k b) (h0 : 0 ≤ a) (h1 : 0 < b) (hw : k.wrap (a / b) = a / b) : (XOp.bin .quo x y).run c T H = some (.i k (a / b), H) :=
  r_bin hx hy (by
    have e : ¬ b = 0 := by omega
    have e2 := Int.tdiv_eq_ediv_of_nonneg (b := b) h0
    simp only [pbin, if_true, if_neg e, e2, hw])
theorem r_remu {k : IntKind} {a b : Int} (hx : x.ev T = .i k a) (hy : y.ev T = .i k b) (h0 : 0 ≤ a) (h1 : 0 < b) : (XOp.bin .rem x y).run c T H = some (.i k (a % b), H) :=
  r_bin hx hy (by
    have e : ¬ b = 0 := by omega
    have e2 := Int.tmod_eq_emod_of_nonneg (b := b) h0
    simp only [pbin, if_true, if_neg e, e2])
end
theorem u8_or128 {k : Int} (h0 : 0 ≤ k) (h1 : k < 128) : u8 ((BitVec.ofInt 8 k ||| BitVec.ofInt 8 128).toNat : Int) = u8 (k + 128) := by
  obtain ⟨n, rfl⟩ := Int.eq_ofNat_of_zero_le h0
  have e : (BitVec.ofInt 8 (n : Int) ||| BitVec.ofInt 8 128).toNat = 1 * 2 ^ 7 + n := by
    rw [show (128 : Int) = ((1 * 2 ^ 7 : Nat) : Int) by decide]
    have := or_of (w := 8) (A := 1) (y := n) (i := 7) (by omega) (by omega)
    rw [BitVec.or_comm]; exact this
  rw [e]; congr 1; omega
theorem and128 (y : UInt8) : (!decide (IntKind.u8.wrap ((BitVec.ofInt 8 (y.toNat : Int) &&& BitVec.ofInt 8 128).toNat : Int) = 0)) = decide (128 ≤ (y.toNat : Int)) := by
  have key : ∀ b : BitVec 8, ((b &&& 128#8).toNat = 0) = (b.toNat < 128) := by decide +kernel
  have h1 := y.toNat_lt
  have e : BitVec.ofInt 8 (y.toNat : Int) = BitVec.ofNat 8 y.toNat := BitVec.ofInt_natCast ..
  have e2 : (BitVec.ofNat 8 y.toNat).toNat = y.toNat := by rw [BitVec.toNat_ofNat]; omega
  have hk := key (BitVec.ofNat 8 y.toNat)
  rw [e2] at hk
  rw [e, show BitVec.ofInt 8 128 = 128#8 from rfl, wrap_u8]
  have hlt := (BitVec.ofNat 8 y.toNat &&& 128#8).isLt
  by_cases h : y.toNat < 128
  · have h0 : (BitVec.ofNat 8 y.toNat &&& 128#8).toNat = 0 := by rw [hk]; exact h
    rw [h0]; simp; omega
  · have h0 : ¬ (BitVec.ofNat 8 y.toNat &&& 128#8).toNat = 0 := by rw [hk]; exact h
    have : ¬ ((BitVec.ofNat 8 y.toNat &&& 128#8).toNat : Int) % 256 = 0 := by omega
    simp only [this, decide_false, Bool.not_false]; symm; rw [decide_eq_true_iff]; omega
theorem andNot128 (y : UInt8) : IntKind.u8.wrap ((BitVec.ofInt 8 (y.toNat : Int) &&& ~~~BitVec.ofInt 8 128).toNat : Int) = (y.toNat : Int) % 128 := by
  have key : ∀ b : BitVec 8, (b &&& ~~~128#8).toNat = b.toNat % 128 := by decide +kernel
  have h1 := y.toNat_lt
  have e : BitVec.ofInt 8 (y.toNat : Int) = BitVec.ofNat 8 y.toNat := BitVec.ofInt_natCast ..
  have e2 : (BitVec.ofNat 8 y.toNat).toNat = y.toNat := by rw [BitVec.toNat_ofNat]; omega
  have hk := key (BitVec.ofNat 8 y.toNat)
  rw [e2] at hk
  rw [e, show BitVec.ofInt 8 128 = 128#8 from rfl, hk, wrap_u8]
  omega
theorem is_byte (y : UInt8) : (decide (128 ≤ (y.toNat : Int)) && decide ((y.toNat : Int) ≤ 191)) = decide ((y.toNat : Int) / 64 = 2) := by
  rw [Bool.eq_iff_iff]; simp; omega
end Go.Proofs.Ytjheedfobmlalaa.E
